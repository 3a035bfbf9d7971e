/- Contracts and plain theory of this seat, merged out of smaller texts: T7a, T7b, T7. -/
import Derived.Test.YthbdgahmlggpmaaDoorM5
import Derived.Test.YthbdgahmlggpmaaDoorM13
import Derived.Lib.SliceRun
import Derived.Test.YthbdgahmlggpmaaDoorR4
import Derived.Laws.CopyOwn
/- tree.Remove's closure, and slices.IndexFunc and slices.DeleteFunc with it. -/



namespace Go.Proofs.YthbdgahmlggpmaaDoor.Q
open Go.RowKit Go.Proofs.YthbdgahmlggpmaaDoorW.PrintWords Go.Proofs.YthbdgahmlggpmaaDoorW.PrintLast Go.Proofs.YthbdgahmlggpmaaDoorW.PrintMore
set_option linter.unusedVariables false
set_option linter.unusedSimpArgs false
set_option maxHeartbeats 4000000 in
set_option maxRecDepth 100000 in
theorem clo56 (x : S34) (gn : Nat) (id : Int) (w : World) (h : w.cell? ⟨gn, 0, none⟩ = some (.int .u32 id)) :
    Calls Tryd.prog 56 #[.agg #[.int .u32 x.f0, .int .u32 x.f1, .string x.f2, .bool x.f3, .int .u32 x.f4], .pointer (some ⟨gn, 0, none⟩)] w fun e w' => e = .returned (.bool (x.f0 == id)) ∧ Below w.heap.size w w' := by
  have BK := heap_alloc_new w (.cells #[.int .u32 x.f0, .int .u32 x.f1, .string x.f2, .bool x.f3, .int .u32 x.f4] 34)
  have HB := Aside0.mk (below_alloc (Below.refl w.heap.size w) (.cells #[.int .u32 x.f0, .int .u32 x.f1, .string x.f2, .bool x.f3, .int .u32 x.f4] 34))
  have k0 : (w.alloc (.cells #[.int .u32 x.f0, .int .u32 x.f1, .string x.f2, .bool x.f3, .int .u32 x.f4] 34)).cell? ⟨w.heap.size, 0, none⟩ = some (.int .u32 x.f0) := (blk_cell BK 0).trans rfl
  have k1 : (w.alloc (.cells #[.int .u32 x.f0, .int .u32 x.f1, .string x.f2, .bool x.f3, .int .u32 x.f4] 34)).cell? ⟨gn, 0, none⟩ = some (.int .u32 id) := Lib.cell?_alloc_some _ h
  clear BK h
  go_enter Tryd.func56, Tryd.ntmps56
  go_wp2_with (fail)
  go_ret
  exact ⟨rfl, HB.out⟩
set_option maxHeartbeats 4000000 in
set_option maxRecDepth 100000 in
theorem idx67 (g cap gn : Nat) (l : List S34) (id : Int) (k : Nat) (w : World) (hr0 : Kd.C k34 w (some ⟨g, 0, none⟩) l.length l) (hl : l.length ≤ 1000) (hn : w.cell? ⟨gn, 0, none⟩ = some (.int .u32 id)) (hk : k < l.length) (hkid : l[k].f0 = id) (hu : Up l) :
    Calls Tryd.prog 67 #[.slice (some ⟨g, 0, none⟩) l.length cap, .func (.func 56) #[] #[.pointer (some ⟨gn, 0, none⟩)]] w fun e w' => e = .returned (.int .i64 (k : Int)) ∧ Below w.heap.size w w' := by
  have HR0 := Aside0.mk hr0
  have HN := Aside0.mk hn
  have HU := Aside0.mk hu
  clear hr0 hn hu
  go_enter Tryd.func67, Tryd.ntmps67
  go_wp2_with (fail)
  go_loopw [8] (fun v8 wr => ∃ i : Nat, i ≤ k ∧ v8 = .int .i64 i ∧ Aside0 (Below w.heap.size w wr)) (fun v8 _ => l.length - (intOf v8).toNat)
  case atStart => exact ⟨0, Nat.zero_le _, rfl, ⟨Below.refl _ _⟩⟩
  case round =>
    obtain ⟨i, hi, rfl, HB⟩ := hrel
    have hil : i < l.length := by omega
    obtain ⟨ad, e, x0, x1, x2, x3, x4⟩ := at_T34 (Kd.C_below HR0.out HB.out) (i : Int) (by omega) (by omega)
    cases e
    have ea : (⟨g, 0, none⟩ : Addr).add (i * 5) = ⟨g, i * 5, none⟩ := by
      simp only [Addr.add]
      split
      · rename_i h; rw [h]
      · simp
    simp only [Int.toNat_natCast, ea] at x0 x1 x2 x3 x4
    clear ea
    have hN2 : wr.cell? ⟨gn, 0, none⟩ = some (.int .u32 id) := (HB.out.cell (World.block_lt_of_cell? w _ HN.out)).trans HN.out
    have HN2 := Aside0.mk hN2
    clear hN2
    have hx : rd_T34 l (i : Int) = l[i] := rd34_get l i hil
    by_cases he : i = k
    · subst he
      have e1 : ((rd_T34 l (i : Int)).f0 == id) = true := by rw [hx, hkid]; simp
      clear hx hkid
      generalize rd_T34 l (i : Int) = x at x0 x1 x2 x3 x4 e1
      go_wp2_with (go_at_call 56; refine (clo56 x gn id _ HN2.out).mono ?_; rintro e w1 ⟨rfl, hb1⟩; have HB1 := Aside0.mk (below_step HB.out hb1); clear hb1)
      go_ret
      exact ⟨rfl, HB1.out⟩
    · have e1 : ((rd_T34 l (i : Int)).f0 == id) = false := by
        rw [hx, beq_eq_false_iff_ne, ← hkid]
        exact fun h => he (HU.out.inj hil hk h)
      clear hx
      generalize rd_T34 l (i : Int) = x at x0 x1 x2 x3 x4 e1
      go_wp2_with (go_at_call 56; refine (clo56 x gn id _ HN2.out).mono ?_; rintro e w1 ⟨rfl, hb1⟩; have HB1 := Aside0.mk (below_step HB.out hb1); clear hb1)
      exact ⟨⟨i + 1, by omega, by go_num, HB1⟩, by simp [intOf]; omega⟩
theorem run_clear_one {P : Program} (w : World) (t e ty : TypeId) (z : Value) (ht : P.underlying t = some (.slice e)) (hv : ∀ w, (zeroValue e).run P w = .ok z w) (g o c : Nat) (cur : Array Value) (tt : TypeId) (hg : w.heap[g]? = some (.cells cur tt (0, 0))) (hfit : o + z.cells.size ≤ cur.size) (h1 : ∀ v ∈ z.cells.toList, v.oneCell' = true) :
    (Builtin.clear_ #[t] ty #[.slice (some ⟨g, o, none⟩) 1 c]).run P w = .ok (.tuple #[]) (w.setRow g (cur.toList.take o ++ z.cells.toList ++ cur.toList.drop (o + z.cells.size)).toArray) := by
  have hz : Builtin.zeroCells z.cells 1 = z.cells := by
    apply Array.ext
    · simp [Builtin.zeroCells]
    · intro i h1 h2
      simp only [Builtin.zeroCells, Array.getElem_map, Array.getElem_range]
      rw [Nat.mod_eq_of_lt h2, getElem!_pos z.cells i h2]
  have hst := run_storeCells_at P g o tt z.cells.toList 0 cur w hg (by simpa using hfit) h1
  simp only [Nat.add_zero, Array.length_toList] at hst
  simp [Builtin.clear_, run_underlying ht, hv, hz, hst]
end Go.Proofs.YthbdgahmlggpmaaDoor.Q
/- slices.DeleteFunc with tree.Remove's closure: the list without the one of an Id. -/

namespace Go.Proofs.YthbdgahmlggpmaaDoor.Q
open Go.RowKit Go.Proofs.YthbdgahmlggpmaaDoorW.PrintWords Go.Proofs.YthbdgahmlggpmaaDoorW.PrintLast Go.Proofs.YthbdgahmlggpmaaDoorW.PrintMore
set_option linter.unusedVariables false
set_option linter.unusedSimpArgs false
/-- The list under way: behind k each is the next one, up to m. -/
structure Shift (l R : List S34) (k m : Nat) : Prop where
  len : R.length = l.length
  lo : ∀ x : Nat, x < k → R[x]? = l[x]?
  mid : ∀ x : Nat, k ≤ x → x < m → R[x]? = l[x + 1]?
  hi : ∀ x : Nat, m ≤ x → R[x]? = l[x]?
theorem Shift.step {l R : List S34} {k m : Nat} (h : Shift l R k m) (hk : k ≤ m) (hm : m + 1 < l.length) : Shift l (R.set m l[m + 1]) k (m + 1) := by
  have hl := h.len
  refine ⟨by simp [h.len], fun x hx => ?_, fun x h1 h2 => ?_, fun x hx => ?_⟩
  · rw [List.getElem?_set_ne (by omega)]
    exact h.lo x hx
  · by_cases e : x = m
    · subst e
      rw [List.getElem?_set_self (by omega), List.getElem?_eq_getElem hm]
    · rw [List.getElem?_set_ne (by omega)]
      exact h.mid x h1 (by omega)
  · rw [List.getElem?_set_ne (by omega)]
    exact h.hi x (by omega)
theorem Shift.done {l R : List S34} {k m : Nat} (h : Shift l R k m) (hk : k ≤ m) (hm : m + 1 = l.length) : R.take m = outN l k := by
  apply List.ext_getElem?
  intro x
  unfold outN
  rw [List.getElem?_take, List.getElem?_append, List.length_take]
  by_cases h1 : x < k
  · rw [if_pos (by omega), if_pos (by omega), h.lo x h1, List.getElem?_take, if_pos h1]
  · rw [if_neg (show ¬ x < min k l.length by omega), List.getElem?_drop]
    by_cases h2 : x < m
    · rw [if_pos h2, h.mid x (by omega) h2]
      congr 1
      omega
    · rw [if_neg h2, List.getElem?_eq_none (by omega)]
set_option maxHeartbeats 4000000 in
set_option maxRecDepth 100000 in
theorem del55 (W0 : World) (g cap gn : Nat) (cur : Array Value) (l : List S34) (id : Int) (k : Nat) (w : World) (hrow : Row w g cap cur l) (hl : l.length ≤ 1000) (cs : Array Value) (hnb : w.heap[gn]? = some (.cells cs 34 (0, 0))) (hcs : cs[0]? = some (.int .u32 id)) (hne : gn ≠ g) (hk : k < l.length) (hkid : l[k].f0 = id) (hu : Up l) (hB : Below W0.heap.size W0 w) (hg : W0.heap.size ≤ g) (h2 : 2 ≤ l.length) :
    Calls Tryd.prog 55 #[.slice (some ⟨g, 0, none⟩) l.length cap, .func (.func 56) #[] #[.pointer (some ⟨gn, 0, none⟩)]] w fun e w' => e = .returned (.slice (some ⟨g, 0, none⟩) (l.length - 1) cap) ∧ (∃ cur', Row w' g cap cur' (outN l k)) ∧ Below W0.heap.size W0 w' ∧ (∀ (b : Nat) (o : Obj), b ≠ g → w.heap[b]? = some o → w'.heap[b]? = some o) := by
  have hn : w.cell? ⟨gn, 0, none⟩ = some (.int .u32 id) := (blk_cell hnb 0).trans hcs
  have HNB := Aside0.mk hnb
  have HROW := Aside0.mk hrow
  have HK := Aside0.mk (Kd.R_reads' (R_of_row (base := W0.heap.size) hrow hg)).2.2
  have HN := Aside0.mk hn
  have HU := Aside0.mk hu
  have HB0 := Aside0.mk hB
  have HKID := Aside0.mk hkid
  have hi34 : Aside0 ((Tryd.prog.info? 34).map (·.size) = some 5) := ⟨by kernel_rfl⟩
  clear hrow hn hu hB hkid hnb
  go_enter Tryd.func55, Tryd.ntmps55
  go_wp2_with (go_at_call 67; refine (idx67 g cap gn l id k _ HK.out hl HN.out hk HKID.out HU.out).mono ?_; rintro e w1 ⟨rfl, hb1⟩; have HB1 := Aside0.mk hb1; clear hb1)
  go_loopw [5, 6] (fun v5 v6 wr => ∃ (m : Nat) (R : List S34) (cr : Array Value), k ≤ m ∧ m + 1 ≤ l.length ∧ v5 = .int .i64 m ∧ v6 = .int .i64 ((m : Int) + 1) ∧ Aside0 (Shift l R k m) ∧ Aside0 (Row wr g cap cr R) ∧ Aside0 (Below W0.heap.size W0 wr) ∧ Aside0 (∀ (b : Nat) (o : Obj), b ≠ g → w.heap[b]? = some o → wr.heap[b]? = some o)) (fun v5 v6 _ => l.length - (intOf v6).toNat)
  case atStart => exact ⟨k, l, cur, Nat.le_refl _, hk, rfl, by go_num, ⟨⟨rfl, fun _ _ => rfl, fun x h1 h2 => by omega, fun _ _ => rfl⟩⟩, ⟨Row.mk (blk_below HROW.out.heap HB1.out) HROW.out.le HROW.out.max HROW.out.size HROW.out.cells⟩, ⟨below_step HB0.out HB1.out⟩, ⟨fun b o _ h => blk_below h HB1.out⟩⟩
  case round =>
    obtain ⟨m, R, cr, hkm, hml, rfl, rfl, HS, HR, HB, HC⟩ := hrel
    by_cases hlt : m + 1 < l.length
    · have hlen : R.length = l.length := HS.out.len
      have hC := (Kd.R_reads' (R_of_row (base := W0.heap.size) HR.out hg)).2.2
      rw [hlen] at hC
      obtain ⟨ad, e, x0, x1, x2, x3, x4⟩ := at_T34 hC ((m + 1 : Nat) : Int) (by omega) (by omega)
      cases e
      have ea : (⟨g, 0, none⟩ : Addr).add ((m + 1) * 5) = ⟨g, (m + 1) * 5, none⟩ := by
        simp only [Addr.add]
        split
        · rename_i h; rw [h]
        · simp
      simp only [Int.toNat_natCast, ea] at x0 x1 x2 x3 x4
      have hx : rd_T34 R ((m + 1 : Nat) : Int) = l[m + 1] := by
        rw [rd34_get _ _ (by omega)]
        have := HS.out.hi (m + 1) (by omega)
        rw [List.getElem?_eq_getElem (by omega), List.getElem?_eq_getElem (by omega)] at this
        exact Option.some.inj this
      have HX := Aside0.mk hx
      have hid : (l[m + 1].f0 == id) = false := by
        rw [beq_eq_false_iff_ne, ← HKID.out]
        intro h
        have := HU.out.inj hlt hk h
        omega
      rw [hx] at x0 x1 x2 x3 x4
      clear ea hC hx
      have HN2 := Aside0.mk (show wr.cell? ⟨gn, 0, none⟩ = some (.int .u32 id) from (blk_cell (HC.out _ _ hne HNB.out) 0).trans hcs)
      have HST := Aside0.mk (HS.out.step hkm hlt)
      generalize l[m + 1] = x at x0 x1 x2 x3 x4 hid HST
      go_upto_region 8 with (fail)
      have BKx := Aside0.mk (heap_alloc_new wr (.cells #[.int .u32 x.f0, .int .u32 x.f1, .string x.f2, .bool x.f3, .int .u32 x.f4] 34))
      have HR2 := Aside0.mk (Row.mk (blk_alloc HR.out.heap (.cells #[.int .u32 x.f0, .int .u32 x.f1, .string x.f2, .bool x.f3, .int .u32 x.f4] 34)) HR.out.le HR.out.max HR.out.size HR.out.cells)
      have HB2 := Aside0.mk (below_alloc HB.out (.cells #[.int .u32 x.f0, .int .u32 x.f1, .string x.f2, .bool x.f3, .int .u32 x.f4] 34))
      have HC2 := Aside0.mk (show ∀ (b : Nat) (o : Obj), b ≠ g → w.heap[b]? = some o → (wr.alloc (.cells #[.int .u32 x.f0, .int .u32 x.f1, .string x.f2, .bool x.f3, .int .u32 x.f4] 34)).heap[b]? = some o from fun b o h1 h => blk_alloc (HC.out b o h1 h) _)
      have HN3 := Aside0.mk (Lib.cell?_alloc_some (.cells #[.int .u32 x.f0, .int .u32 x.f1, .string x.f2, .bool x.f3, .int .u32 x.f4] 34) HN2.out)
      clear HR HB HC HN2 x0 x1 x2 x3 x4
      generalize wr.alloc (.cells #[.int .u32 x.f0, .int .u32 x.f1, .string x.f2, .bool x.f3, .int .u32 x.f4] 34) = w2 at BKx HR2 HB2 HC2 HN3 ⊢
      generalize wr.heap.size = gv at BKx ⊢
      have y0 : w2.cell? ⟨gv, 0, none⟩ = some (.int .u32 x.f0) := (blk_cell BKx.out 0).trans rfl
      have y1 : w2.cell? ⟨gv, 1, none⟩ = some (.int .u32 x.f1) := (blk_cell BKx.out 1).trans rfl
      have y2 : w2.cell? ⟨gv, 2, none⟩ = some (.string x.f2) := (blk_cell BKx.out 2).trans rfl
      have y3 : w2.cell? ⟨gv, 3, none⟩ = some (.bool x.f3) := (blk_cell BKx.out 3).trans rfl
      have y4 : w2.cell? ⟨gv, 4, none⟩ = some (.int .u32 x.f4) := (blk_cell BKx.out 4).trans rfl
      have hlt2 : m < l.length := by omega
      have hfit : m * 5 + 5 ≤ cr.size := by have := HR2.out.size; have := HR2.out.le; omega
      have hset := Aside0.mk (set_cells cr.toList R x m cap (by omega) HR2.out.le (by rw [Array.length_toList]; exact HR2.out.size) HR2.out.cells)
      go_upto_region 9 with (go_at_call 56; refine (clo56 x gn id _ HN3.out).mono ?_; rintro e w3 ⟨rfl, hb3⟩; have BK3 := Aside0.mk (blk_below BKx.out hb3); have HR3 := Aside0.mk (Row.mk (blk_below HR2.out.heap hb3) HR2.out.le HR2.out.max HR2.out.size HR2.out.cells); have HB3 := Aside0.mk (below_step HB2.out hb3); have HC3 := Aside0.mk (show ∀ (b : Nat) (o : Obj), b ≠ g → w.heap[b]? = some o → w3.heap[b]? = some o from fun b o h1 h => blk_below (HC2.out b o h1 h) hb3); clear hb3)
      clear y0 y1 y2 y3 y4 BKx HR2 HB2 HC2 HN3
      have y0 : w3.cell? ⟨gv, 0, none⟩ = some (.int .u32 x.f0) := (blk_cell BK3.out 0).trans rfl
      have y1 : w3.cell? ⟨gv, 1, none⟩ = some (.int .u32 x.f1) := (blk_cell BK3.out 1).trans rfl
      have y2 : w3.cell? ⟨gv, 2, none⟩ = some (.string x.f2) := (blk_cell BK3.out 2).trans rfl
      have y3 : w3.cell? ⟨gv, 3, none⟩ = some (.bool x.f3) := (blk_cell BK3.out 3).trans rfl
      have y4 : w3.cell? ⟨gv, 4, none⟩ = some (.int .u32 x.f4) := (blk_cell BK3.out 4).trans rfl
      go_wp2_with (refine wpList_store_at rfl 34 (.tmp 33) (.tmp 32) rfl g (m * 5) #[.int .u32 x.f0, .int .u32 x.f1, .string x.f2, .bool x.f3, .int .u32 x.f4] cr 34 rfl rfl HR3.out.heap hfit hi34.out ?hone ?_; (case hone => exact fun v hv => flat_one [x] v (by simpa [flat, c5] using hv)))
      have hR : Row (w3.setRow g (cr.toList.take (m * 5) ++ c5 x ++ cr.toList.drop (m * 5 + 5)).toArray) g cap (cr.toList.take (m * 5) ++ c5 x ++ cr.toList.drop (m * 5 + 5)).toArray (R.set m x) :=
        ⟨setRow_heap _ _ _ _ _ _ HR3.out.heap, by rw [List.length_set]; exact HR3.out.le, HR3.out.max, by simpa using hset.out.1, by rw [List.length_set]; simpa using hset.out.2⟩
      simp only [c5, List.append_assoc, List.cons_append, List.nil_append] at hR
      have HR4 := Aside0.mk hR
      clear hR
      go_roundw
      case rel =>
        refine ⟨_, _, _, _, _, _, _, _, _, _, _, _, _, _, _, _, _, _, _, _, _, _, _, ?hrel2, rfl⟩
        exact ⟨m + 1, R.set m x, _, by omega, by omega, by go_num, by go_num, HST, HR4, ⟨below_setRow HB3.out hg _⟩, ⟨fun b o h1 h => (setRow_other _ _ _ _ h1).trans (HC3.out b o h1 h)⟩⟩
      case measure => simp [intOf]; omega
    · have hm : m + 1 = l.length := by omega
      have hlen : R.length = l.length := HS.out.len
      have hle := HR.out.le
      have hsz := HR.out.size
      have HD := Aside0.mk (HS.out.done hkm hm)
      obtain ⟨i0, hi0, _, hs5, _⟩ := info_parts info34
      have ea : (⟨g, 0, none⟩ : Addr).add (m * 5) = ⟨g, m * 5, none⟩ := by
        simp only [Addr.add]
        split
        · rename_i h; rw [h]
        · simp
      have hcutF := cut_from (P := Tryd.prog) 22 34 .i64 Tryd.underlying22 hi0 5 hs5 (some ⟨g, 0, none⟩) l.length cap (m : Int) (by omega) (by omega)
      have hcutT := cut_to (P := Tryd.prog) 22 34 .i64 Tryd.underlying22 hi0 (some ⟨g, 0, none⟩) l.length cap (m : Int) (by omega) (by omega) (by omega)
      have e1 : ((m : Int)).toNat = m := rfl
      have e2 : l.length - m = 1 := by omega
      rw [e1, if_neg (by omega), e2] at hcutF
      simp only [Option.map_some, ea] at hcutF
      rw [e1] at hcutT
      have hcl : ∀ ty, (Builtin.clear_ #[22] ty #[.slice (some ⟨g, m * 5, none⟩) 1 (cap - m)]).run Tryd.prog wr = .ok (.tuple #[]) (wr.setRow g (cr.toList.take (m * 5) ++ c5 zI ++ cr.toList.drop (m * 5 + 5)).toArray) :=
        fun ty => run_clear_one wr 22 34 ty (.agg #[.int .u32 0, .int .u32 0, .string ⟨#[]⟩, .bool false, .int .u32 0]) Tryd.underlying22 (fun w => by first | rfl | go_simp) g (m * 5) (cap - m) cr 34 HR.out.heap (by show m * 5 + 5 ≤ cr.size; omega) (fun v hv => flat_one [zI] v (by simpa [flat, c5, zI, Value.cells] using hv))
      have hset := Aside0.mk (set_cells cr.toList R zI m cap (by omega) HR.out.le (by rw [Array.length_toList]; exact HR.out.size) HR.out.cells)
      clear ea hi0 hs5 e1 e2
      go_wp2_with (fail)
      go_ret
      refine ⟨by rw [← hm]; rfl, ⟨(cr.toList.take (m * 5) ++ (c5 zI ++ cr.toList.drop (m * 5 + 5))).toArray, ?_⟩, below_setRow HB.out hg _, fun b o h1 h => (setRow_other _ _ _ _ h1).trans (HC.out b o h1 h)⟩
      have hol : (outN l k).length = m := by rw [← HD.out, List.length_take]; omega
      have hs0 := hset.out
      rw [List.append_assoc] at hs0
      refine ⟨setRow_heap _ _ _ _ _ _ HR.out.heap, by rw [hol]; omega, HR.out.max, by rw [List.size_toArray]; exact hs0.1, ?_⟩
      have h1 := hs0.2
      rw [hol, ← HD.out]
      have h2 := congrArg (List.take (m * 5)) h1
      rw [List.take_take, Nat.min_eq_left (by omega), flat_take] at h2
      simp only
      rw [h2]
      congr 1
      rw [List.take_set_of_le (by omega)]
end Go.Proofs.YthbdgahmlggpmaaDoor.Q
/- The contract of tree.Remove. -/



namespace Go.Proofs.YthbdgahmlggpmaaDoor.Q
open Go.RowKit Go.Proofs.YthbdgahmlggpmaaDoorW.PrintWords Go.Proofs.YthbdgahmlggpmaaDoorW.PrintLast Go.Proofs.YthbdgahmlggpmaaDoorW.PrintMore
set_option linter.unusedVariables false
set_option linter.unusedSimpArgs false
theorem results_tct {P : Program} {fn : Func} {u p v : Tmp} {ty : TypeId} (h : fn.results = #[.tmp u, .cell p ty, .tmp v]) (tmps : Array Value) (w : World) (g : Nat) (t : TypeId) (cs : Array Value) (fr : Nat × Nat) (d : TypeDesc)
    (hp : tmps.getD p undef = .pointer (some ⟨g, 0, none⟩)) (hg : w.heap[g]? = some (.cells cs t fr))
    (hu : P.underlying ty = some d) (hd : (match d with | .struct _ | .array _ _ => true | _ => false) = true) (hi : (P.info? ty).map (·.size) = some cs.size) :
    (results fn tmps).run P w = .ok (.tuple #[tmps.getD u undef, .agg cs, tmps.getD v undef]) w := by
  have hp' : tmps[p]?.getD undef = .pointer (some ⟨g, 0, none⟩) := by simpa using hp
  simp [results, h, hp', asAddr, run_loadVar_row w g t ty cs fr d hg hu hd hi]
theorem run_store_at {P : Program} {oi : Oper} {a : Act} (w : World) (ty : TypeId) (x y : Operand) (ho : oi.op = .store ty x y) (g o : Nat) (cells cur : Array Value) (t : TypeId) (hx : a.eval x = .pointer (some ⟨g, o, none⟩)) (hy : a.eval y = .agg cells)
    (hg : w.heap[g]? = some (.cells cur t (0, 0))) (hfit : o + cells.size ≤ cur.size) (hi : (P.info? ty).map (·.size) = some cells.size) (h1 : ∀ v ∈ cells.toList, v.oneCell' = true) :
    (execOp a.eval oi).run P w = .ok .skip (w.setRow g (cur.toList.take o ++ cells.toList ++ cur.toList.drop (o + cells.size)).toArray) := by
  unfold execOp
  simp only [ho, hx, hy, Instr.storeAt, Instr.sureAddr, Sem.run_bind, Sem.run_pure, Result.andThen_ok, run_storeVar_at w g o ty cells cur t hg hfit hi h1]
def outI (l : List S34) (id : Int) : List S34 := outN l (getN l id).toNat
def remF (l : List S34) (s : ByteArray) (dir : Bool) : List S34 × S34 × Int :=
  if (findF l s).2 = 0 then
    (if (findF l s).1.f0 = 1 then ([], zI, 21)
     else if dir = true ∧ (findF l s).1.f3 = false then ([], zI, 10)
     else if dir = true ∧ 0 < (kidsI l (findF l s).1.f0).length then ([], zI, 24)
     else if dir = false ∧ (findF l s).1.f3 = true then ([], zI, 11)
     else (outI l (findF l s).1.f0, (findF l s).1, 0))
  else ([], zI, (findF l s).2)
theorem find_at {l : List S34} {s : ByteArray} (hw : wfL l = true) (h : (findF l s).2 = 0) : Tr l ∧ ∃ k, ∃ hk : k < l.length, l[k] = (findF l s).1 := by
  unfold findF at h ⊢
  by_cases hb : (beginF l s).2 = 0
  · rw [if_pos hb] at h ⊢
    have t := tr_of hw (begin_ok hb)
    refine ⟨t, ?_⟩
    obtain ⟨q, hq, h1, h2⟩ := walk_rel0 t (beginF l s).1
    rw [h1] at h
    exact ⟨q, hq, (h2 h).2.symm⟩
  · rw [if_neg hb] at h
    exact absurd h hb
set_option maxHeartbeats 4000000 in
set_option maxRecDepth 100000 in
theorem none54 (e : Int) (w : World) : Calls Tryd.prog 54 #[.int .i64 e] w fun r w' => r = .returned (.tuple #[.slice none 0 0, .agg #[.int .u32 0, .int .u32 0, .string ⟨#[]⟩, .bool false, .int .u32 0], .int .i64 e]) ∧ Below w.heap.size w w' := by
  obtain ⟨fs, hu34'⟩ : ∃ fs, Tryd.prog.underlying 34 = some (.struct fs) := ⟨_, rfl⟩
  have hu34 := Aside0.mk hu34'
  have hi34 : Aside0 ((Tryd.prog.info? 34).map (·.size) = some 5) := ⟨by kernel_rfl⟩
  have hz34 : ∀ w, (zeroValue 34).run Tryd.prog w = .ok (.agg #[.int .u32 0, .int .u32 0, .string ⟨#[]⟩, .bool false, .int .u32 0]) w := fun w => by kernel_rfl
  have HZ := Aside0.mk (heap_alloc_new w (.cells #[.int .u32 0, .int .u32 0, .string ⟨#[]⟩, .bool false, .int .u32 0] 34))
  have HB := Aside0.mk (below_alloc (Below.refl w.heap.size w) (.cells #[.int .u32 0, .int .u32 0, .string ⟨#[]⟩, .bool false, .int .u32 0] 34))
  clear hu34'
  go_enter Tryd.func54, Tryd.ntmps54
  go_wp2_with (refine wpList_store_row rfl 34 (.tmp 3) (.tmp 5) rfl w.heap.size #[.int .u32 0, .int .u32 0, .string ⟨#[]⟩, .bool false, .int .u32 0] rfl rfl 34 _ HZ.out hi34.out rfl ?kone ?_; (case kone => simp [Value.oneCell']))
  refine bodyPost_ret (results_tct rfl _ _ w.heap.size 34 #[.int .u32 0, .int .u32 0, .string ⟨#[]⟩, .bool false, .int .u32 0] (0, 0) (.struct fs) rfl ?k1 hu34.out rfl hi34.out) rfl ⟨?kv, ?k2⟩
  case kv => rfl
  case k1 => exact setRow_heap _ _ _ _ _ _ HZ.out
  case k2 => exact below_setRow HB.out (Nat.le_refl _) _
set_option maxHeartbeats 8000000 in
set_option maxRecDepth 100000 in
theorem rem_c (A0 : Option Addr) (c0 : Nat) (l : List S34) (s : ByteArray) (dir : Bool) (w : World) (hr0 : Kd.C k34 w A0 l.length l) (hc0 : l.length ≤ c0) (hw : wfL l = true) (hs : s.size ≤ 100000) :
    Calls Tryd.prog 24 #[.slice A0 l.length c0, .string s, .bool dir] w fun e w' => ∃ v0_ : Value, e = .returned (.tuple #[v0_, .agg #[.int .u32 (remF l s dir).2.1.f0, .int .u32 (remF l s dir).2.1.f1, .string (remF l s dir).2.1.f2, .bool (remF l s dir).2.1.f3, .int .u32 (remF l s dir).2.1.f4], .int .i64 (remF l s dir).2.2]) ∧ Kd.R k34 34 w' w.heap.size (fun _ => True) v0_ (remF l s dir).1 ∧ Below w.heap.size w w' := by
  have HR0 := Aside0.mk hr0
  have HC0 := Aside0.mk hc0
  have HW := Aside0.mk hw
  obtain ⟨fs, hu34'⟩ : ∃ fs, Tryd.prog.underlying 34 = some (.struct fs) := ⟨_, rfl⟩
  have hu34 := Aside0.mk hu34'
  have hi34 : Aside0 ((Tryd.prog.info? 34).map (·.size) = some 5) := ⟨by kernel_rfl⟩
  have hz34 : ∀ w, (zeroValue 34).run Tryd.prog w = .ok (.agg #[.int .u32 0, .int .u32 0, .string ⟨#[]⟩, .bool false, .int .u32 0]) w := fun w => by kernel_rfl
  have hF := Aside0.mk (find_c A0 c0 l s (w.alloc (.cells #[.int .u32 0, .int .u32 0, .string ⟨#[]⟩, .bool false, .int .u32 0] 34)) (Kd.C_alloc hr0 _) hc0 hw hs)
  have hKX := fun h => find_at (s := s) hw h
  obtain ⟨res, hres⟩ : ∃ r, r = remF l s dir := ⟨_, rfl⟩
  rw [← hres]
  unfold remF at hres
  have HRES := Aside0.mk hres
  clear hr0 hc0 hw hu34' hres
  generalize findF l s = f at HRES hF hKX
  obtain ⟨x, ef⟩ := f
  simp only at HRES hF hKX
  go_enter Tryd.func24, Tryd.ntmps24
  go_upto_region 3 with (go_at_call 26; refine hF.out.mono ?_; rintro e w1 ⟨rfl, hb1⟩; have HZ1 := Aside0.mk (blk_below (heap_alloc_new w _) hb1); have HB1 := Aside0.mk (below_step (below_alloc (Below.refl w.heap.size w) _) hb1); clear hb1)
  clear hF
  have BK2 := Aside0.mk (heap_alloc_new w1 (.cells #[.int .u32 x.f0, .int .u32 x.f1, .string x.f2, .bool x.f3, .int .u32 x.f4] 34))
  have HZ2 := Aside0.mk (blk_alloc HZ1.out (.cells #[.int .u32 x.f0, .int .u32 x.f1, .string x.f2, .bool x.f3, .int .u32 x.f4] 34))
  have HB2 := Aside0.mk (below_alloc HB1.out (.cells #[.int .u32 x.f0, .int .u32 x.f1, .string x.f2, .bool x.f3, .int .u32 x.f4] 34))
  clear HZ1 HB1
  generalize w1.alloc (.cells #[.int .u32 x.f0, .int .u32 x.f1, .string x.f2, .bool x.f3, .int .u32 x.f4] 34) = w2 at BK2 HZ2 HB2 ⊢
  generalize w1.heap.size = g10 at BK2 ⊢
  have k0 : w2.cell? ⟨g10, 0, none⟩ = some (.int .u32 x.f0) := (blk_cell BK2.out 0).trans rfl
  have k3 : w2.cell? ⟨g10, 3, none⟩ = some (.bool x.f3) := (blk_cell BK2.out 3).trans rfl
  by_cases h0 : ef = 0
  rotate_left
  · have e0 : (ef != 0) = true := bne_iff_ne.2 h0
    have hR : res = ([], zI, ef) := by have := HRES.out; rwa [if_neg h0] at this
    subst hR
    clear HRES hKX
    go_wp2_with (first | (go_at_call 54; refine (none54 _ _).mono ?_; rintro e w8 ⟨rfl, hb8⟩; have HZ8 := Aside0.mk (blk_below HZ2.out hb8); have HB8 := Aside0.mk (below_step HB2.out hb8); clear hb8) | (refine wpList_store_row rfl 34 (.tmp 7) (.tmp 25) rfl w.heap.size #[.int .u32 0, .int .u32 0, .string ⟨#[]⟩, .bool false, .int .u32 0] rfl rfl 34 _ HZ8.out hi34.out rfl ?kone ?_; (case kone => simp [Value.oneCell'])))
    refine bodyPost_ret (results_tct rfl _ _ w.heap.size 34 #[.int .u32 0, .int .u32 0, .string ⟨#[]⟩, .bool false, .int .u32 0] (0, 0) (.struct fs) rfl ?k11 hu34.out rfl hi34.out) rfl ⟨.slice none 0 0, ?kv1, ?ko1, ?kb1⟩
    case kv1 => rfl
    case k11 => exact setRow_heap _ _ _ _ _ _ HZ8.out
    case ko1 => exact Kd.R_nil _ _ _ _ _
    case kb1 => exact below_setRow HB8.out (Nat.le_refl _) _
  subst h0
  obtain ⟨ht, hk⟩ := hKX rfl
  have HT := Aside0.mk ht
  have HKX := Aside0.mk hk
  clear hKX ht hk
  have hl40 := HT.out.le
  have hR0 := HRES.out
  rw [if_pos rfl] at hR0
  clear HRES
  by_cases h1 : x.f0 = 1
  · have e1 : (x.f0 == 1) = true := beq_iff_eq.2 h1
    have hR : res = ([], zI, 21) := by rw [hR0, if_pos h1]
    subst hR
    clear hR0
    go_wp2_with (first | (go_at_call 54; refine (none54 _ _).mono ?_; rintro e w8 ⟨rfl, hb8⟩; have HZ8 := Aside0.mk (blk_below HZ2.out hb8); have HB8 := Aside0.mk (below_step HB2.out hb8); clear hb8) | (refine wpList_store_row rfl 34 (.tmp 7) (.tmp 34) rfl w.heap.size #[.int .u32 0, .int .u32 0, .string ⟨#[]⟩, .bool false, .int .u32 0] rfl rfl 34 _ HZ8.out hi34.out rfl ?kone ?_; (case kone => simp [Value.oneCell'])))
    refine bodyPost_ret (results_tct rfl _ _ w.heap.size 34 #[.int .u32 0, .int .u32 0, .string ⟨#[]⟩, .bool false, .int .u32 0] (0, 0) (.struct fs) rfl ?k12 hu34.out rfl hi34.out) rfl ⟨.slice none 0 0, ?kv2, ?ko2, ?kb2⟩
    case kv2 => rfl
    case k12 => exact setRow_heap _ _ _ _ _ _ HZ8.out
    case ko2 => exact Kd.R_nil _ _ _ _ _
    case kb2 => exact below_setRow HB8.out (Nat.le_refl _) _
  have e1 : (x.f0 == 1) = false := beq_eq_false_iff_ne.2 h1
  rw [if_neg h1] at hR0
  cases dir
  · cases hd : x.f3
    · rw [hd] at k3
      rw [if_neg (by simp), if_neg (by simp), if_neg (by simp [hd])] at hR0
      obtain ⟨k, hk, hkx⟩ := HKX.out
      have hl40 := HT.out.le
      have h2l : 2 ≤ l.length := by
        rcases Nat.lt_or_ge l.length 2 with h | h
        · exfalso
          have : k = 0 := by omega
          subst this
          exact h1 (by rw [← hkx]; exact HT.out.r0.1)
        · exact h
      have hR := hR0
      have hout : outI l x.f0 = outN l k := by
        unfold outI
        rw [← hkx, (HT.out.up.find hk).2]
        rfl
      rw [hout] at hR
      clear hout hR0
      subst hR
      have BKd := Aside0.mk (blk_drew BK2.out)
      have HZd := Aside0.mk (blk_drew HZ2.out)
      have HBd := Aside0.mk (below_drew1 HB2.out)
      go_upto_region 13 with (fail)
      clear k0 k3 hd
      refine start_ (n := 8) (S := fun w' => w'.cell? ⟨g10, 0, none⟩ = some (.int .u32 x.f0) ∧ w'.cell? ⟨g10, 1, none⟩ = some (.int .u32 x.f1) ∧ w'.cell? ⟨g10, 2, none⟩ = some (.string x.f2) ∧ w'.cell? ⟨g10, 3, none⟩ = some (.bool x.f3) ∧ w'.cell? ⟨g10, 4, none⟩ = some (.int .u32 x.f4)) (ds := [6]) #[false, false, false, false, false, false, false, false] (by kernel_rfl) rfl rfl ⟨(blk_cell BKd.out 0).trans rfl, (blk_cell BKd.out 1).trans rfl, (blk_cell BKd.out 2).trans rfl, (blk_cell BKd.out 3).trans rfl, (blk_cell BKd.out 4).trans rfl⟩ (fun hHeld => ?_)
      generalize w2.drew = wd at BKd HZd HBd hHeld ⊢
      refine pure_ (i := 0) (N := some 75) (v := ?_) (a' := ?_) #[true, false, false, false, false, false, false, false] rfl rfl (by kernel_rfl) (fun _ _ _ h => h) (Or.inl ⟨by rfl, ?_⟩) ?_ ?_
      rotate_left
      · intro w'
        go_simp
        with_reducible rfl
      rotate_left
      · simp only [Act.put, List.setIfInBounds_toArray, List.set_cons_zero, List.set_cons_succ, i64_w, i32_w]
        rfl
      refine pure_ (i := 2) (N := some 77) (v := ?_) (a' := ?_) #[true, false, true, false, false, false, false, false] rfl rfl (by kernel_rfl) (fun _ _ _ h => h) (Or.inl ⟨by rfl, ?_⟩) ?_ ?_
      rotate_left
      · intro w'
        go_simp
        with_reducible rfl
      rotate_left
      · simp only [Act.put, List.setIfInBounds_toArray, List.set_cons_zero, List.set_cons_succ, i64_w, i32_w]
        rfl
      refine take_ (i := 4) (N := some 79) (v := ?_) (a' := ?_) #[true, false, true, false, true, false, false, false] rfl rfl (by kernel_rfl) (fun _ _ _ h => h) (Or.inl ⟨by rfl, ?_⟩) hHeld ?_ ?_
      rotate_left
      · rintro w' ⟨s0, s1, s2, s3, s4⟩
        go_simp
        with_reducible rfl
      rotate_left
      · simp only [Act.put, List.setIfInBounds_toArray, List.set_cons_zero, List.set_cons_succ, i64_w, i32_w]
        rfl
      refine one_ (i := 1) (N := some 76) #[true, true, true, false, true, false, false, false] rfl rfl (by kernel_rfl) (by decide) (fun K hK => ?_)
      refine goes_ Tryd.func39 (by kernel_rfl) rfl #[.slice A0 l.length c0] (by rfl) rfl rfl (by (try simp only [List.map_toArray, List.map_cons, List.map_nil]); first | done | rfl | (simp only [List.length_drop, List.length_take]; rfl)) ?_
      refine (clone34.calls A0 c0 l l _ (Kd.C_below HR0.out HBd.out) HC0.out (by unfold clone34.f; rw [if_pos (by omega)])).mono ?_
      rintro e w5 ⟨v5, rfl, ho5, hb5⟩
      refine ⟨_, rfl, ?_⟩
      have BK5 := Aside0.mk (blk_below BKd.out hb5)
      have HZ5 := Aside0.mk (blk_below HZd.out hb5)
      have HB5 := Aside0.mk (below_step HBd.out hb5)
      have hlt10 := blk_lt BKd.out
      have hlt7 := blk_lt HZd.out
      obtain ⟨g, cap, cur, rfl, hbg, hrow⟩ := row_of_R ho5 (by omega)
      have hg10 : g10 ≠ g := by omega
      have hg7 : w.heap.size ≠ g := by omega
      have hgw : w.heap.size ≤ g := by omega
      clear hb5 ho5 BKd HZd HBd hlt10 hlt7 hbg
      refine hK.out _ _ ⟨(blk_cell BK5.out 0).trans rfl, (blk_cell BK5.out 1).trans rfl, (blk_cell BK5.out 2).trans rfl, (blk_cell BK5.out 3).trans rfl, (blk_cell BK5.out 4).trans rfl⟩ (fun hHeld => ?_)
      clear hK K
      refine norm_ (a' := ?_) ?_ ?_
      rotate_left
      · show Act.put _ (some 76) _ = _
        simp only [Act.put, List.setIfInBounds_toArray, List.set_cons_zero, List.set_cons_succ, i64_w, i32_w]
        rfl
      refine one_ (i := 3) (N := some 78) #[true, true, true, true, true, false, false, false] rfl rfl (by kernel_rfl) (by decide) (fun K hK => ?_)
      refine goes_ Tryd.func55 (by kernel_rfl) rfl #[.slice (some ⟨g, 0, none⟩) l.length cap, .func (.func 56) #[] #[.pointer (some ⟨g10, 0, none⟩)]] (by rfl) rfl rfl (by (try simp only [List.map_toArray, List.map_cons, List.map_nil]); first | done | rfl | (simp only [List.length_drop, List.length_take]; rfl)) ?_
      refine (del55 w g cap g10 cur l x.f0 k _ hrow (by omega) _ BK5.out rfl hg10 hk (by rw [hkx]) HT.out.up HB5.out hgw h2l).mono ?_
      rintro e w6 ⟨rfl, ⟨cur', hrow'⟩, hb6, hkeep⟩
      refine ⟨_, rfl, ?_⟩
      have BK6 := Aside0.mk (hkeep _ _ hg10 BK5.out)
      have HZ6 := Aside0.mk (hkeep _ _ hg7 HZ5.out)
      refine hK.out _ _ ⟨(blk_cell BK6.out 0).trans rfl, (blk_cell BK6.out 1).trans rfl, (blk_cell BK6.out 2).trans rfl, (blk_cell BK6.out 3).trans rfl, (blk_cell BK6.out 4).trans rfl⟩ (fun hHeld => ?_)
      clear hK K
      refine norm_ (a' := ?_) ?_ ?_
      rotate_left
      · show Act.put _ (some 78) _ = _
        simp only [Act.put, List.setIfInBounds_toArray, List.set_cons_zero, List.set_cons_succ, i64_w, i32_w]
        rfl
      refine pure_ (i := 5) (N := some 6) (v := ?_) (a' := ?_) #[true, true, true, true, true, true, false, false] rfl rfl (by kernel_rfl) (fun _ _ _ h => h) (Or.inl ⟨by rfl, ?_⟩) ?_ ?_
      rotate_left
      · intro w'
        go_simp
        with_reducible rfl
      rotate_left
      · simp only [Act.put, List.setIfInBounds_toArray, List.set_cons_zero, List.set_cons_succ, i64_w, i32_w]
        rfl
      refine last_ (i := 6) (N := none) #[true, true, true, true, true, true, true, false] rfl rfl (by kernel_rfl) (by decide) (fun K hK => ?_)
      refine skip_ (by rfl) rfl (run_store_at w6 34 (.tmp 7) (.tmp 79) rfl w.heap.size 0 #[.int .u32 x.f0, .int .u32 x.f1, .string x.f2, .bool x.f3, .int .u32 x.f4] #[.int .u32 0, .int .u32 0, .string ⟨#[]⟩, .bool false, .int .u32 0] 34 rfl rfl HZ6.out (by simp) hi34.out (by simp [Value.oneCell'])) ?_
      refine hK.out _ _ ?_
      clear hK K
      refine pure_ (i := 7) (N := some 8) (v := ?_) (a' := ?_) #[true, true, true, true, true, true, true, true] rfl rfl (by kernel_rfl) (fun _ _ _ h => h) (Or.inl ⟨by rfl, ?_⟩) ?_ ?_
      rotate_left
      · intro w'
        go_simp
        with_reducible rfl
      rotate_left
      · simp only [Act.put, List.setIfInBounds_toArray, List.set_cons_zero, List.set_cons_succ, i64_w, i32_w]
        rfl
      refine done_ (by kernel_rfl) ?_
      try go_wp2
      refine bodyPost_ret (results_tct rfl _ _ w.heap.size 34 #[.int .u32 x.f0, .int .u32 x.f1, .string x.f2, .bool x.f3, .int .u32 x.f4] (0, 0) (.struct fs) rfl ?k16 hu34.out rfl hi34.out) rfl ⟨.slice (some ⟨g, 0, none⟩) (l.length - 1) cap, ?kv6, ?ko6, ?kb6⟩
      case kv6 => rfl
      case k16 => exact setRow_heap _ _ _ _ _ _ HZ6.out
      case ko6 =>
        have hR2 := fun cs => R_of_row (base := w.heap.size) (Row.mk ((setRow_other w6 w.heap.size g cs (Ne.symm hg7)).trans hrow'.heap) hrow'.le hrow'.max hrow'.size hrow'.cells) hgw
        have hol : (outN l k).length = l.length - 1 := by simp [outN]; omega
        rw [hol] at hR2
        exact hR2 _
      case kb6 => exact below_setRow hb6 (Nat.le_refl _) _
    · rw [hd] at k3
      have hR : res = ([], zI, 11) := by rw [hR0, if_neg (by simp), if_neg (by simp), if_pos ⟨rfl, hd⟩]
      subst hR
      clear hR0
      go_wp2_with (first | (go_at_call 54; refine (none54 _ _).mono ?_; rintro e w8 ⟨rfl, hb8⟩; have HZ8 := Aside0.mk (blk_below HZ2.out hb8); have HB8 := Aside0.mk (below_step HB2.out hb8); clear hb8) | (refine wpList_store_row rfl 34 (.tmp 7) (.tmp 73) rfl w.heap.size #[.int .u32 0, .int .u32 0, .string ⟨#[]⟩, .bool false, .int .u32 0] rfl rfl 34 _ HZ8.out hi34.out rfl ?kone ?_; (case kone => simp [Value.oneCell'])))
      refine bodyPost_ret (results_tct rfl _ _ w.heap.size 34 #[.int .u32 0, .int .u32 0, .string ⟨#[]⟩, .bool false, .int .u32 0] (0, 0) (.struct fs) rfl ?k13 hu34.out rfl hi34.out) rfl ⟨.slice none 0 0, ?kv3, ?ko3, ?kb3⟩
      case kv3 => rfl
      case k13 => exact setRow_heap _ _ _ _ _ _ HZ8.out
      case ko3 => exact Kd.R_nil _ _ _ _ _
      case kb3 => exact below_setRow HB8.out (Nat.le_refl _) _
  · cases hd : x.f3
    · rw [hd] at k3
      have hR : res = ([], zI, 10) := by rw [hR0, if_pos ⟨rfl, hd⟩]
      subst hR
      clear hR0
      go_wp2_with (first | (go_at_call 54; refine (none54 _ _).mono ?_; rintro e w8 ⟨rfl, hb8⟩; have HZ8 := Aside0.mk (blk_below HZ2.out hb8); have HB8 := Aside0.mk (below_step HB2.out hb8); clear hb8) | (refine wpList_store_row rfl 34 (.tmp 7) (.tmp 46) rfl w.heap.size #[.int .u32 0, .int .u32 0, .string ⟨#[]⟩, .bool false, .int .u32 0] rfl rfl 34 _ HZ8.out hi34.out rfl ?kone ?_; (case kone => simp [Value.oneCell'])))
      refine bodyPost_ret (results_tct rfl _ _ w.heap.size 34 #[.int .u32 0, .int .u32 0, .string ⟨#[]⟩, .bool false, .int .u32 0] (0, 0) (.struct fs) rfl ?k14 hu34.out rfl hi34.out) rfl ⟨.slice none 0 0, ?kv4, ?ko4, ?kb4⟩
      case kv4 => rfl
      case k14 => exact setRow_heap _ _ _ _ _ _ HZ8.out
      case ko4 => exact Kd.R_nil _ _ _ _ _
      case kb4 => exact below_setRow HB8.out (Nat.le_refl _) _
    · rw [hd] at k3
      rw [if_neg (by simp [hd])] at hR0
      have hKs := Aside0.mk (kids_c A0 c0 l x.f0 w2 (Kd.C_below HR0.out HB2.out) HC0.out (by omega))
      by_cases h4 : 0 < (kidsI l x.f0).length
      · have e4 : decide (((kidsI l x.f0).length : Int) > 0) = true := decide_eq_true (by omega)
        have e5 : decide (0 < (kidsI l x.f0).length) = true := decide_eq_true h4
        have e6 : (0 < (kidsI l x.f0).length) = True := eq_true h4
        have hR : res = ([], zI, 24) := by rw [hR0, if_pos ⟨rfl, h4⟩]
        subst hR
        clear hR0
        go_wp2_with (first | (go_at_call 40; refine hKs.out.mono ?_; rintro e w3 ⟨⟨A3, c3, rfl⟩, hb3⟩; have HZ3 := Aside0.mk (blk_below HZ2.out hb3); have HB3 := Aside0.mk (below_step HB2.out hb3); clear hb3) | (go_at_call 54; refine (none54 _ _).mono ?_; rintro e w8 ⟨rfl, hb8⟩; have HZ8 := Aside0.mk (blk_below HZ3.out hb8); have HB8 := Aside0.mk (below_step HB3.out hb8); clear hb8) | (refine wpList_store_row rfl 34 (.tmp 7) (.tmp 61) rfl w.heap.size #[.int .u32 0, .int .u32 0, .string ⟨#[]⟩, .bool false, .int .u32 0] rfl rfl 34 _ HZ8.out hi34.out rfl ?kone ?_; (case kone => simp [Value.oneCell'])))
        refine bodyPost_ret (results_tct rfl _ _ w.heap.size 34 #[.int .u32 0, .int .u32 0, .string ⟨#[]⟩, .bool false, .int .u32 0] (0, 0) (.struct fs) rfl ?k15 hu34.out rfl hi34.out) rfl ⟨.slice none 0 0, ?kv5, ?ko5, ?kb5⟩
        case kv5 => rfl
        case k15 => exact setRow_heap _ _ _ _ _ _ HZ8.out
        case ko5 => exact Kd.R_nil _ _ _ _ _
        case kb5 => exact below_setRow HB8.out (Nat.le_refl _) _
      · have e4 : decide (((kidsI l x.f0).length : Int) > 0) = false := decide_eq_false (by omega)
        have e5 : decide (0 < (kidsI l x.f0).length) = false := decide_eq_false h4
        rw [if_neg (fun h => h4 h.2), if_neg (by simp)] at hR0
        go_upto_region 11 with (go_at_call 40; refine hKs.out.mono ?_; rintro e w3 ⟨⟨A3, c3, rfl⟩, hb3⟩; have BK3 := Aside0.mk (blk_below BK2.out hb3); have HZ3 := Aside0.mk (blk_below HZ2.out hb3); have HB3 := Aside0.mk (below_step HB2.out hb3); clear hb3)
        clear k0 k3 hKs
        have k0 : w3.cell? ⟨g10, 0, none⟩ = some (.int .u32 x.f0) := (blk_cell BK3.out 0).trans rfl
        have k3 : w3.cell? ⟨g10, 3, none⟩ = some (.bool x.f3) := (blk_cell BK3.out 3).trans rfl
        obtain ⟨k, hk, hkx⟩ := HKX.out
        have hl40 := HT.out.le
        have h2l : 2 ≤ l.length := by
          rcases Nat.lt_or_ge l.length 2 with h | h
          · exfalso
            have : k = 0 := by omega
            subst this
            exact h1 (by rw [← hkx]; exact HT.out.r0.1)
          · exact h
        have hR := hR0
        have hout : outI l x.f0 = outN l k := by
          unfold outI
          rw [← hkx, (HT.out.up.find hk).2]
          rfl
        rw [hout] at hR
        clear hout hR0
        subst hR
        have BKd := Aside0.mk (blk_drew BK3.out)
        have HZd := Aside0.mk (blk_drew HZ3.out)
        have HBd := Aside0.mk (below_drew1 HB3.out)
        go_upto_region 13 with (fail)
        clear k0 k3 hd
        refine start_ (n := 8) (S := fun w' => w'.cell? ⟨g10, 0, none⟩ = some (.int .u32 x.f0) ∧ w'.cell? ⟨g10, 1, none⟩ = some (.int .u32 x.f1) ∧ w'.cell? ⟨g10, 2, none⟩ = some (.string x.f2) ∧ w'.cell? ⟨g10, 3, none⟩ = some (.bool x.f3) ∧ w'.cell? ⟨g10, 4, none⟩ = some (.int .u32 x.f4)) (ds := [6]) #[false, false, false, false, false, false, false, false] (by kernel_rfl) rfl rfl ⟨(blk_cell BKd.out 0).trans rfl, (blk_cell BKd.out 1).trans rfl, (blk_cell BKd.out 2).trans rfl, (blk_cell BKd.out 3).trans rfl, (blk_cell BKd.out 4).trans rfl⟩ (fun hHeld => ?_)
        generalize w3.drew = wd at BKd HZd HBd hHeld ⊢
        refine pure_ (i := 0) (N := some 75) (v := ?_) (a' := ?_) #[true, false, false, false, false, false, false, false] rfl rfl (by kernel_rfl) (fun _ _ _ h => h) (Or.inl ⟨by rfl, ?_⟩) ?_ ?_
        rotate_left
        · intro w'
          go_simp
          with_reducible rfl
        rotate_left
        · simp only [Act.put, List.setIfInBounds_toArray, List.set_cons_zero, List.set_cons_succ, i64_w, i32_w]
          rfl
        refine pure_ (i := 2) (N := some 77) (v := ?_) (a' := ?_) #[true, false, true, false, false, false, false, false] rfl rfl (by kernel_rfl) (fun _ _ _ h => h) (Or.inl ⟨by rfl, ?_⟩) ?_ ?_
        rotate_left
        · intro w'
          go_simp
          with_reducible rfl
        rotate_left
        · simp only [Act.put, List.setIfInBounds_toArray, List.set_cons_zero, List.set_cons_succ, i64_w, i32_w]
          rfl
        refine take_ (i := 4) (N := some 79) (v := ?_) (a' := ?_) #[true, false, true, false, true, false, false, false] rfl rfl (by kernel_rfl) (fun _ _ _ h => h) (Or.inl ⟨by rfl, ?_⟩) hHeld ?_ ?_
        rotate_left
        · rintro w' ⟨s0, s1, s2, s3, s4⟩
          go_simp
          with_reducible rfl
        rotate_left
        · simp only [Act.put, List.setIfInBounds_toArray, List.set_cons_zero, List.set_cons_succ, i64_w, i32_w]
          rfl
        refine one_ (i := 1) (N := some 76) #[true, true, true, false, true, false, false, false] rfl rfl (by kernel_rfl) (by decide) (fun K hK => ?_)
        refine goes_ Tryd.func39 (by kernel_rfl) rfl #[.slice A0 l.length c0] (by rfl) rfl rfl (by (try simp only [List.map_toArray, List.map_cons, List.map_nil]); first | done | rfl | (simp only [List.length_drop, List.length_take]; rfl)) ?_
        refine (clone34.calls A0 c0 l l _ (Kd.C_below HR0.out HBd.out) HC0.out (by unfold clone34.f; rw [if_pos (by omega)])).mono ?_
        rintro e w5 ⟨v5, rfl, ho5, hb5⟩
        refine ⟨_, rfl, ?_⟩
        have BK5 := Aside0.mk (blk_below BKd.out hb5)
        have HZ5 := Aside0.mk (blk_below HZd.out hb5)
        have HB5 := Aside0.mk (below_step HBd.out hb5)
        have hlt10 := blk_lt BKd.out
        have hlt7 := blk_lt HZd.out
        obtain ⟨g, cap, cur, rfl, hbg, hrow⟩ := row_of_R ho5 (by omega)
        have hg10 : g10 ≠ g := by omega
        have hg7 : w.heap.size ≠ g := by omega
        have hgw : w.heap.size ≤ g := by omega
        clear hb5 ho5 BKd HZd HBd hlt10 hlt7 hbg
        refine hK.out _ _ ⟨(blk_cell BK5.out 0).trans rfl, (blk_cell BK5.out 1).trans rfl, (blk_cell BK5.out 2).trans rfl, (blk_cell BK5.out 3).trans rfl, (blk_cell BK5.out 4).trans rfl⟩ (fun hHeld => ?_)
        clear hK K
        refine norm_ (a' := ?_) ?_ ?_
        rotate_left
        · show Act.put _ (some 76) _ = _
          simp only [Act.put, List.setIfInBounds_toArray, List.set_cons_zero, List.set_cons_succ, i64_w, i32_w]
          rfl
        refine one_ (i := 3) (N := some 78) #[true, true, true, true, true, false, false, false] rfl rfl (by kernel_rfl) (by decide) (fun K hK => ?_)
        refine goes_ Tryd.func55 (by kernel_rfl) rfl #[.slice (some ⟨g, 0, none⟩) l.length cap, .func (.func 56) #[] #[.pointer (some ⟨g10, 0, none⟩)]] (by rfl) rfl rfl (by (try simp only [List.map_toArray, List.map_cons, List.map_nil]); first | done | rfl | (simp only [List.length_drop, List.length_take]; rfl)) ?_
        refine (del55 w g cap g10 cur l x.f0 k _ hrow (by omega) _ BK5.out rfl hg10 hk (by rw [hkx]) HT.out.up HB5.out hgw h2l).mono ?_
        rintro e w6 ⟨rfl, ⟨cur', hrow'⟩, hb6, hkeep⟩
        refine ⟨_, rfl, ?_⟩
        have BK6 := Aside0.mk (hkeep _ _ hg10 BK5.out)
        have HZ6 := Aside0.mk (hkeep _ _ hg7 HZ5.out)
        refine hK.out _ _ ⟨(blk_cell BK6.out 0).trans rfl, (blk_cell BK6.out 1).trans rfl, (blk_cell BK6.out 2).trans rfl, (blk_cell BK6.out 3).trans rfl, (blk_cell BK6.out 4).trans rfl⟩ (fun hHeld => ?_)
        clear hK K
        refine norm_ (a' := ?_) ?_ ?_
        rotate_left
        · show Act.put _ (some 78) _ = _
          simp only [Act.put, List.setIfInBounds_toArray, List.set_cons_zero, List.set_cons_succ, i64_w, i32_w]
          rfl
        refine pure_ (i := 5) (N := some 6) (v := ?_) (a' := ?_) #[true, true, true, true, true, true, false, false] rfl rfl (by kernel_rfl) (fun _ _ _ h => h) (Or.inl ⟨by rfl, ?_⟩) ?_ ?_
        rotate_left
        · intro w'
          go_simp
          with_reducible rfl
        rotate_left
        · simp only [Act.put, List.setIfInBounds_toArray, List.set_cons_zero, List.set_cons_succ, i64_w, i32_w]
          rfl
        refine last_ (i := 6) (N := none) #[true, true, true, true, true, true, true, false] rfl rfl (by kernel_rfl) (by decide) (fun K hK => ?_)
        refine skip_ (by rfl) rfl (run_store_at w6 34 (.tmp 7) (.tmp 79) rfl w.heap.size 0 #[.int .u32 x.f0, .int .u32 x.f1, .string x.f2, .bool x.f3, .int .u32 x.f4] #[.int .u32 0, .int .u32 0, .string ⟨#[]⟩, .bool false, .int .u32 0] 34 rfl rfl HZ6.out (by simp) hi34.out (by simp [Value.oneCell'])) ?_
        refine hK.out _ _ ?_
        clear hK K
        refine pure_ (i := 7) (N := some 8) (v := ?_) (a' := ?_) #[true, true, true, true, true, true, true, true] rfl rfl (by kernel_rfl) (fun _ _ _ h => h) (Or.inl ⟨by rfl, ?_⟩) ?_ ?_
        rotate_left
        · intro w'
          go_simp
          with_reducible rfl
        rotate_left
        · simp only [Act.put, List.setIfInBounds_toArray, List.set_cons_zero, List.set_cons_succ, i64_w, i32_w]
          rfl
        refine done_ (by kernel_rfl) ?_
        try go_wp2
        refine bodyPost_ret (results_tct rfl _ _ w.heap.size 34 #[.int .u32 x.f0, .int .u32 x.f1, .string x.f2, .bool x.f3, .int .u32 x.f4] (0, 0) (.struct fs) rfl ?k17 hu34.out rfl hi34.out) rfl ⟨.slice (some ⟨g, 0, none⟩) (l.length - 1) cap, ?kv7, ?ko7, ?kb7⟩
        case kv7 => rfl
        case k17 => exact setRow_heap _ _ _ _ _ _ HZ6.out
        case ko7 =>
          have hR2 := fun cs => R_of_row (base := w.heap.size) (Row.mk ((setRow_other w6 w.heap.size g cs (Ne.symm hg7)).trans hrow'.heap) hrow'.le hrow'.max hrow'.size hrow'.cells) hgw
          have hol : (outN l k).length = l.length - 1 := by simp [outN]; omega
          rw [hol] at hR2
          exact hR2 _
        case kb7 => exact below_setRow hb6 (Nat.le_refl _) _
def tree_Remove.f (l : List S34) (s : ByteArray) (dir : Bool) : Option (List S34 × Int × Int × ByteArray × Bool × Int × Int) :=
  if wfL l = true ∧ s.size ≤ 100000 then some ((remF l s dir).1, (remF l s dir).2.1.f0, (remF l s dir).2.1.f1, (remF l s dir).2.1.f2, (remF l s dir).2.1.f3, (remF l s dir).2.1.f4, (remF l s dir).2.2) else none
theorem tree_Remove.calls (A0 : Option Addr) (c0 : Nat) (l0 : List S34) (a1 : ByteArray) (a2 : Bool) (r1 : List S34) (r2 r3 : Int) (r4 : ByteArray) (r5 : Bool) (r6 r7 : Int) (w : World) (hr0 : Kd.C k34 w A0 l0.length l0) (hc0 : l0.length ≤ c0) (h : tree_Remove.f l0 a1 a2 = some (r1, r2, r3, r4, r5, r6, r7)) :
    Calls Tryd.prog 24 #[.slice A0 l0.length c0, .string a1, .bool a2] w fun e w' => ∃ v0_ : Value, e = .returned (.tuple #[v0_, .agg #[.int .u32 r2, .int .u32 r3, .string r4, .bool r5, .int .u32 r6], .int .i64 r7]) ∧ Kd.R k34 34 w' w.heap.size (fun _ => True) v0_ r1 ∧ Below w.heap.size w w' := by
  unfold tree_Remove.f at h
  by_cases hd : wfL l0 = true ∧ a1.size ≤ 100000
  · rw [if_pos hd] at h
    have h' := Option.some.inj h
    have q := rem_c A0 c0 l0 a1 a2 w hr0 hc0 hd.1 hd.2
    simp only [Prod.mk.injEq] at h'
    obtain ⟨rfl, rfl, rfl, rfl, rfl, rfl, rfl⟩ := h'
    exact q
  · rw [if_neg hd] at h
    cases h
end Go.Proofs.YthbdgahmlggpmaaDoor.Q
