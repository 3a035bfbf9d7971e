/- What the walk of TreeKeeps needs of memory: copying a list into room, what lies in other blocks stays. -/
import Derived.Test.YthbdgahmlggpmaaDoorM5
import Derived.Laws.MakeOwn
namespace Go.Proofs.YthbdgahmlggpmaaDoor.Q
open Go.RowKit Go.Proofs.YthbdgahmlggpmaaDoorW.PrintWords Go.Proofs.YthbdgahmlggpmaaDoorW.PrintLast Go.Proofs.YthbdgahmlggpmaaDoorW.PrintMore
set_option linter.unusedVariables false
set_option linter.unusedSimpArgs false
theorem add_block (a : Addr) (n : Nat) : (a.add n).block = a.block := by
  simp only [Addr.add]
  split <;> rfl
/-- A reading stays where the cells of its block stay. -/
theorem C_move {w w1 : World} {A : Option Addr} {n : Nat} {xs : List S34} (h : Kd.C k34 w A n xs) (hc : ∀ a b : Addr, A = some b → a.block = b.block → ∀ v, w.cell? a = some v → w1.cell? a = some v) : Kd.C k34 w1 A n xs := by
  obtain ⟨h1, h2, h3⟩ := h
  refine ⟨h1, h2, fun hn => ?_⟩
  obtain ⟨ad, e, hcell⟩ := h3 hn
  refine ⟨ad, e, fun j p hj => ?_⟩
  obtain ⟨c, hl, hr, hi⟩ := hcell j p hj
  exact ⟨c, hl, by rw [k34_open hr]; exact k34_mk _ _, fun i u hu => hc _ ad e (add_block _ _) _ (hi i u hu)⟩
theorem flat_cells {w : World} {a : Addr} {n : Nat} {xs : List S34} (h : Kd.C k34 w (some a) n xs) (hn : 0 < n) (j : Nat) (v : Value) (hj : (flat xs)[j]? = some v) : w.cell? (a.add j) = some v := by
  obtain ⟨h1, h2, h3⟩ := h
  obtain ⟨ad, e, hcell⟩ := h3 hn
  cases e
  have hjl : j < xs.length * 5 := by
    have := (List.getElem?_eq_some_iff.1 hj).1
    rwa [flat_length] at this
  have hq : j / 5 < xs.length := by omega
  obtain ⟨c, hl, hr, hi⟩ := hcell (j / 5) _ (List.getElem?_eq_getElem hq)
  have hc := k34_open hr
  have hf := flat_at xs (j / 5) _ (List.getElem?_eq_getElem hq)
  have hk : c[j % 5]? = some v := by
    rw [hc]
    have : (c5 xs[j / 5])[j % 5]? = some v := by
      rw [← hf, List.getElem?_take, if_pos (by omega), List.getElem?_drop, show j / 5 * 5 + j % 5 = j by omega]
      exact hj
    exact this
  have := hi _ _ hk
  have hsz : k34.sz = 5 := rfl
  rw [hsz, show j / 5 * 5 + j % 5 = j by omega] at this
  exact this
/-- copy(room, t): the room's first cells are t's. -/
theorem run_copy_room {P : Program} (w : World) (ty : TypeId) (g cap c0 : Nat) (A0 : Option Addr) (l : List S34) (cur : Array Value) (hu : P.underlying 22 = some (.slice 34)) (hs : (P.info? 34).map (·.size) = some 5)
    (hr : Kd.C k34 w A0 l.length l) (hg : w.heap[g]? = some (.cells cur 34 (0, 0))) (hcap : l.length ≤ cap) (hsz : cur.size = cap * 5) :
    (Builtin.copy_ #[22, 22] ty #[.slice (some ⟨g, 0, none⟩) l.length cap, .slice A0 l.length c0]).run P w = .ok (goInt l.length) (w.setRow g (flat l ++ cur.toList.drop (l.length * 5)).toArray) := by
  cases A0 with
  | some a =>
    have h1 := flat_length l
    have hm : l.length.min l.length = l.length := Nat.min_self _
    have := run_copy5 (P := P) w 22 22 ty 34 g 0 l.length cap a l.length c0 cur 34 (flat l) hu hs hg (by rw [h1, hm]) (fun j v hj => flat_cells hr (by
      rcases Nat.eq_zero_or_pos l.length with h0 | h0
      · rw [List.length_eq_zero_iff.1 h0] at hj
        cases hj
      · exact h0) j v hj) (by rw [h1]; omega) (flat_one l)
    rw [hm, h1, Nat.zero_add, List.take_zero, List.nil_append] at this
    exact this
  | none =>
    have h0 : l.length = 0 := by
      obtain ⟨h1, h2, h3⟩ := hr
      rcases Nat.eq_zero_or_pos l.length with h0 | h0
      · exact h0
      · obtain ⟨ad, e, _⟩ := h3 h0
        cases e
    have hl := List.length_eq_zero_iff.1 h0
    subst hl
    have he : w.setRow g (flat [] ++ cur.toList.drop (([] : List S34).length * 5)).toArray = w := by
      rw [flat_nil, List.nil_append, List.length_nil, Nat.zero_mul, List.drop_zero, Array.toArray_toList]
      exact setRow_self w g cur 34 (0, 0) hg
    rw [he]
    cases hq : P.info? 34 with
    | none => simp [hq] at hs
    | some i =>
      have hi : i.size = 5 := by simpa [hq] using hs
      simp [Builtin.copy_, run_underlying hu, Builtin.lenOf, Builtin.firstCells, sizeOf, typeInfo, hq, hi, storeCells]
/-- What was answered: a slice that lies outside the room. -/
def Own (w : World) (g : Nat) (v : Value) (xs : List S34) : Prop := ∃ A c, v = .slice A xs.length c ∧ xs.length ≤ c ∧ Kd.C k34 w A xs.length xs ∧ ∀ a, A = some a → a.block ≠ g
theorem Own.below {w w1 : World} {g : Nat} {v : Value} {xs : List S34} (h : Own w g v xs) (hb : Below w.heap.size w w1) : Own w1 g v xs := by
  obtain ⟨A, c, h1, h2, h3, h4⟩ := h
  exact ⟨A, c, h1, h2, Kd.C_below h3 hb, h4⟩
theorem Own.set {w : World} {g : Nat} {v : Value} {xs : List S34} (h : Own w g v xs) (cs : Array Value) : Own (w.setRow g cs) g v xs := by
  obtain ⟨A, c, h1, h2, h3, h4⟩ := h
  refine ⟨A, c, h1, h2, C_move h3 (fun a b e hb v hv => ?_), h4⟩
  rw [cell_setRow_other _ _ _ _ (by rw [hb]; exact h4 b e)]
  exact hv
theorem Own.ofR {w : World} {g base : Nat} {ok : Nat → Prop} {v : Value} {xs : List S34} (h : Kd.R k34 34 w base ok v xs) (hg : g < base) : Own w g v xs := by
  have hb := fun k => Kd.R_base h k
  obtain ⟨A, c, rfl⟩ := Kd.R_slice h
  refine ⟨A, c, rfl, (Kd.R_reads' h).2.1, (Kd.R_reads' h).2.2, fun a e => ?_⟩
  subst e
  have := hb a.block rfl
  omega
theorem cut_all {P : Program} {i : TypeInfo} (hu : P.underlying 22 = some (.slice 34)) (hi : P.info? 34 = some i) (A : Option Addr) (n c : Nat) (j : Int) (h0 : 0 ≤ j) (hj : j ≤ c) :
    ∀ W : World, (Instr.slice 22 (.slice A n c) none (some (.int .i64 j)) none).run P W = .ok (.slice A j.toNat c) W := by
  intro W
  have hel : P.elem 22 = 34 := by simp [Program.elem, hu]
  have hu' : P.underlying 22 = some (.slice (P.elem 22)) := by rw [hel]; exact hu
  have ha : (A.map fun x => x.add 0) = A := by cases A <;> simp [Addr.add]
  rw [run_slice_h W 22 A n c hu' .i64 j h0 hj, hel]
  simp [sizeOf, typeInfo, hi, sliced, Result.andThen, ha]
theorem flat_set (X : List S34) (x : S34) (i : Nat) (hi : i < X.length) : flat (X.set i x) = (flat X).take (i * 5) ++ c5 x ++ (flat X).drop (i * 5 + 5) := by
  rw [List.set_eq_take_append_cons_drop, if_pos hi, flat_append, flat_cons, ← flat_take, ← flat_drop, show (i + 1) * 5 = i * 5 + 5 by omega, List.append_assoc]
/-- What holds while the room is written: the world, and the two lists of answers. -/
structure St (w wr : World) (g gl gw : Nat) (Ls : Nat → List S34) : Prop where
  below : Below w.heap.size w wr
  lst : ∀ j : Nat, j < 4 → ∃ v, wr.cell? ⟨gl, j, none⟩ = some v ∧ Own wr g v (Ls j)
  was : ∀ j : Nat, j < 4 → ∃ v, wr.cell? ⟨gw, j, none⟩ = some v ∧ Own wr g v (Ls j)
theorem St.step {w wr w1 : World} {g gl gw : Nat} {Ls : Nat → List S34} (h : St w wr g gl gw Ls) (hb : Below wr.heap.size wr w1) : St w w1 g gl gw Ls := by
  refine ⟨below_step h.below hb, fun j hj => ?_, fun j hj => ?_⟩
  · obtain ⟨v, h1, h2⟩ := h.lst j hj
    exact ⟨v, (hb.cell (World.block_lt_of_cell? wr _ h1)).trans h1, h2.below hb⟩
  · obtain ⟨v, h1, h2⟩ := h.was j hj
    exact ⟨v, (hb.cell (World.block_lt_of_cell? wr _ h1)).trans h1, h2.below hb⟩
theorem St.set {w wr : World} {g gl gw : Nat} {Ls : Nat → List S34} (h : St w wr g gl gw Ls) (hg : w.heap.size ≤ g) (h1 : gl ≠ g) (h2 : gw ≠ g) (cs : Array Value) : St w (wr.setRow g cs) g gl gw Ls := by
  refine ⟨below_setRow h.below hg _, fun j hj => ?_, fun j hj => ?_⟩
  · obtain ⟨v, h3, h4⟩ := h.lst j hj
    exact ⟨v, (cell_setRow_other wr g cs ⟨gl, j, none⟩ h1).trans h3, h4.set cs⟩
  · obtain ⟨v, h3, h4⟩ := h.was j hj
    exact ⟨v, (cell_setRow_other wr g cs ⟨gw, j, none⟩ h2).trans h3, h4.set cs⟩
/-- The list of copies, as it lies in memory. -/
theorem was_of {w : World} {g B : Nat} {ok : Nat → Prop} {v : Value} {Xs : List (List S34)} (h : Kd.R (Kd.slice 34 k34) 22 w B ok v Xs) (hp : 0 < Xs.length) (hg : g < B) :
    ∃ gw capw, v = .slice (some ⟨gw, 0, none⟩) Xs.length capw ∧ B ≤ gw ∧ ∀ j (hj : j < Xs.length), ∃ u, w.cell? ⟨gw, j, none⟩ = some u ∧ Own w g u Xs[j] := by
  obtain ⟨_, inner, hown, hrep⟩ := h
  obtain ⟨h1, h2⟩ := hown
  have hsz : (Kd.slice 34 k34).sz = 1 := rfl
  rw [hsz] at h1 h2 hrep
  rcases h2 with ⟨_, h0⟩ | ⟨gw, capw, cur, hv, hb, hgw, hle, hmax, hs, hc⟩
  · omega
  · refine ⟨gw, capw, hv, hb, fun j hj => ?_⟩
    have hr := hrep.2 j _ (List.getElem?_eq_getElem hj)
    obtain ⟨u, hu, hR⟩ := hr
    have hij : inner[j]? = some u := by
      have := congrArg (·[0]?) hu
      simp only [List.getElem?_take, List.getElem?_drop] at this
      simpa using this
    refine ⟨u, ?_, Own.ofR hR hg⟩
    rw [blk_cell hgw]
    rw [← hc, List.getElem?_take, if_pos (by omega)] at hij
    simpa using hij
end Go.Proofs.YthbdgahmlggpmaaDoor.Q
