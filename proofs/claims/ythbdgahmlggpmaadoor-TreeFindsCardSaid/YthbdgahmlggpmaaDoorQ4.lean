-- Printed by wip/pr.py of this work, over the kit's print, with functions proved by hand in their places.
import Derived.Test.YthbdgahmlggpmaaDoorQ0
import Derived.Test.YthbdgahmlggpmaaDoorQ2
namespace Go.Proofs.YthbdgahmlggpmaaDoor.Q
open Go.RowKit Go.Proofs.YthbdgahmlggpmaaDoorW.PrintWords Go.Proofs.YthbdgahmlggpmaaDoorW.PrintLast Go.Proofs.YthbdgahmlggpmaaDoorW.PrintMore
attribute [local go_sem] max2_int min2_int max_two min_two max_three min_three max_four min_four   -- for this text's walks alone
set_option linter.unusedVariables false
set_option linter.unusedSimpArgs false

/-! ### tree_walk: function 35 -/
def tree_walk.l0 : Nat → List (S34) → List ByteArray → Int → Int → Int → Int → ByteArray → Bool → Int → Option (Int × Int × ByteArray × Bool × Int × Int)
  | 0, _, _, _, _, _, _, _, _, _ => none
  | k + 1, x0, x14, x15, x16, x119000, x119001, x119002, x119003, x119004 => if x16 < x15 then (if 0 ≤ x16 then (if x16 < (x14.length : Int) then (if x119003 = true then ((tree_kid.f k x0 x119000 (rdOf ByteArray.empty x14 x16)).bind fun bt120 => (if bt120.2.2.2.2.2 = true then (tree_walk.l0 k x0 x14 x15 (wrap64 (x16 + 1)) bt120.1 bt120.2.1 bt120.2.2.1 bt120.2.2.2.1 bt120.2.2.2.2.1) else (some (0, 0, (⟨#[]⟩ : ByteArray), false, 0, 7)))) else (some (0, 0, (⟨#[]⟩ : ByteArray), false, 0, 10))) else (none)) else (none)) else (some (x119000, x119001, x119002, x119003, x119004, 0))
def tree_walk.f (k : Nat) (l0 : List (S34)) (l1 : List ByteArray) : Option (Int × Int × ByteArray × Bool × Int × Int) := if 0 < (l0.length : Int) then (tree_walk.l0 k l0 l1 (l1.length : Int) 0 ((rd_T34 l0 0).f0) ((rd_T34 l0 0).f1) ((rd_T34 l0 0).f2) ((rd_T34 l0 0).f3) ((rd_T34 l0 0).f4)) else (none)
theorem tree_walk.mono_l : ∀ k, (∀ y0 y1 y2 y3 y4 y5 y6 y7 y8, LeO (tree_walk.l0 k y0 y1 y2 y3 y4 y5 y6 y7 y8) (tree_walk.l0 (k + 1) y0 y1 y2 y3 y4 y5 y6 y7 y8))
  | 0 => fun _ _ _ _ _ _ _ _ _ r h => by simp [tree_walk.l0] at h
  | k + 1 => by
    have ih0 := tree_walk.mono_l k
    · intro y0 y1 y2 y3 y4 y5 y6 y7 y8
      unfold tree_walk.l0
      repeat' first
      | (with_reducible exact ih0 _ _ _ _ _ _ _ _ _)
      | (with_reducible exact tree_kid.mono _ _ _ _)
      | (with_reducible exact LeO.refl _)
      | (with_reducible exact LeO.none _)
      | (with_reducible refine LeO.ite ?_ ?_)
      | (with_reducible refine LeO.bind ?_ (fun _ => ?_))
      | exact ih0 _ _ _ _ _ _ _ _ _
      | exact tree_kid.mono _ _ _ _
      | exact LeO.none _
      | refine LeO.ite ?_ ?_
      | refine LeO.bind ?_ (fun _ => ?_)
theorem tree_walk.mono : ∀ a0 a1 k, LeO (tree_walk.f k a0 a1) (tree_walk.f (k + 1) a0 a1) := by
  intro a0 a1 k
  have ih0 := tree_walk.mono_l k
  unfold tree_walk.f
  repeat' first
      | (with_reducible exact ih0 _ _ _ _ _ _ _ _ _)
      | (with_reducible exact tree_kid.mono _ _ _ _)
      | (with_reducible exact LeO.refl _)
      | (with_reducible exact LeO.none _)
      | (with_reducible refine LeO.ite ?_ ?_)
      | (with_reducible refine LeO.bind ?_ (fun _ => ?_))
      | exact ih0 _ _ _ _ _ _ _ _ _
      | exact tree_kid.mono _ _ _ _
      | exact LeO.none _
      | refine LeO.ite ?_ ?_
      | refine LeO.bind ?_ (fun _ => ?_)
set_option maxHeartbeats 8000000 in
set_option maxRecDepth 100000 in
theorem tree_walk.calls (k : Nat) (A0 : Option Addr) (c0 : Nat) (l0 : List (S34)) (A1 : Option Addr) (c1 : Nat) (l1 : List ByteArray) (r1 : Int) (r2 : Int) (r3 : ByteArray) (r4 : Bool) (r5 : Int) (r6 : Int) (w : World) (hr0 : Kd.C k34 w A0 l0.length l0) (hc0 : l0.length ≤ c0) (hr1 : Kd.C Kd.string w A1 l1.length l1) (hc1 : l1.length ≤ c1) (h : tree_walk.f k l0 l1 = some (r1, r2, r3, r4, r5, r6)) :
    Calls Tryd.prog 35 #[.slice A0 l0.length c0, .slice A1 l1.length c1] w fun e w' => e = .returned (.tuple #[.agg #[.int .u32 r1, .int .u32 r2, .string r3, .bool r4, .int .u32 r5], .int .i64 r6]) ∧ Below w.heap.size w w' := by
  have hu34 := Tryd.underlying34
  have HR0 := Aside0.mk hr0
  have HC0 := Aside0.mk hc0
  clear hr0 hc0
  have HR1 := Aside0.mk hr1
  have HC1 := Aside0.mk hc1
  clear hr1 hc1
  have HB := Aside0.mk (Below.refl w.heap.size w)
  have H : (if 0 < (l0.length : Int) then (tree_walk.l0 k l0 l1 (l1.length : Int) 0 ((rd_T34 l0 0).f0) ((rd_T34 l0 0).f1) ((rd_T34 l0 0).f2) ((rd_T34 l0 0).f3) ((rd_T34 l0 0).f4)) else (none)) = some (r1, r2, r3, r4, r5, r6) := h
  clear h
  by_cases c3 : 0 < (l0.length : Int)
  · rw [if_pos c3] at H
    have c3b0 : decide (0 < (l0.length : Int)) = true := decide_eq_true c3
    have c3b1 : decide (0 < l0.length) = true := decide_eq_true (by omega)
    clear c3
    have H' := Aside0.mk H
    clear H
    go_enter Tryd.func35, Tryd.ntmps35
    go_wp2_with (first | ((with_reducible refine gate_dst (N := 4) rfl ?_); refine box_event ?hg (N := 4) ?hd (cs := #[.int .u32 0, .int .u32 0, .string (⟨#[]⟩ : ByteArray), .bool false, .int .u32 0]) (t := 34) ?hr ?_; (case hd => rfl); (case hg => rfl); (case hr => first | (go_simp; done) | (go_simp; rfl)); intro gb116 hg w4 hbox hb; have n0_ := Aside0.mk (below_step (by repeat (first | (with_reducible first | exact HB.out | apply below_alloc | apply pw_below_drewN | apply below_drew1) | exact HB.out)) hb); have n1_ := Aside0.mk (hbox); have n2_ := Aside0.mk ((by rw [hg]; exact (below_size (by repeat (first | (with_reducible first | exact HB.out | apply below_alloc | apply pw_below_drewN | apply below_drew1) | exact HB.out))) : w.heap.size ≤ gb116)); have n3_ := Aside0.mk ((by rw [hg]; exact (below_size (by repeat (first | (with_reducible first | exact HB.out | apply below_alloc | apply pw_below_drewN | apply below_drew1) | exact HB.out))) : w.heap.size ≤ gb116)); clear HB; have HB := n0_; have BK116 := n1_; have GW116 := n2_; have GE116 := n3_; clear n0_ n1_ n2_ n3_; clear hb hbox hg; have p117 : 0 ≤ (0 : Int) := (by omega); have q117 : 0 < (l0.length : Int) := of_decide_eq_true (by first | (with_reducible assumption) | assumption); obtain ⟨ad117, e117, hx117_0, hx117_1, hx117_2, hx117_3, hx117_4⟩ := at_T34 HR0.out 0 p117 q117; cases e117; have qi117 : (0 < l0.length) = True := eq_true (by omega); (try rw [show ((0 : Int)).toNat = 0 from rfl] at hx117_0); (try rw [show 0 * 5 = 0 from rfl] at hx117_0); (try rw [Addr.add_zero'] at hx117_0); (try rw [show ((0 : Int)).toNat = 0 from rfl] at hx117_1); (try rw [show 0 * 5 = 0 from rfl] at hx117_1); (try rw [Addr.add_zero'] at hx117_1); (try rw [show ((0 : Int)).toNat = 0 from rfl] at hx117_2); (try rw [show 0 * 5 = 0 from rfl] at hx117_2); (try rw [Addr.add_zero'] at hx117_2); (try rw [show ((0 : Int)).toNat = 0 from rfl] at hx117_3); (try rw [show 0 * 5 = 0 from rfl] at hx117_3); (try rw [Addr.add_zero'] at hx117_3); (try rw [show ((0 : Int)).toNat = 0 from rfl] at hx117_4); (try rw [show 0 * 5 = 0 from rfl] at hx117_4); (try rw [Addr.add_zero'] at hx117_4); replace hx117_0 := (HB.out.cell (World.block_lt_of_cell? w _ hx117_0)).trans hx117_0; replace hx117_1 := (HB.out.cell (World.block_lt_of_cell? w _ hx117_1)).trans hx117_1; replace hx117_2 := (HB.out.cell (World.block_lt_of_cell? w _ hx117_2)).trans hx117_2; replace hx117_3 := (HB.out.cell (World.block_lt_of_cell? w _ hx117_3)).trans hx117_3; replace hx117_4 := (HB.out.cell (World.block_lt_of_cell? w _ hx117_4)).trans hx117_4; replace p117 := eq_true p117; replace q117 := eq_true q117) | ((with_reducible refine gate_dst (N := 6) rfl ?_); refine box_event ?hg (N := 6) ?hd (cs := #[.int .u32 0, .int .u32 0, .string (⟨#[]⟩ : ByteArray), .bool false, .int .u32 0]) (t := 34) ?hr ?_; (case hd => rfl); (case hg => rfl); (case hr => first | (go_simp; done) | (go_simp; rfl)); intro gb118 hg w5 hbox hb; have n0_ := Aside0.mk (blk_below (g := gb116) (o := .cells #[.int .u32 0, .int .u32 0, .string (⟨#[]⟩ : ByteArray), .bool false, .int .u32 0] 34 (0, 0)) (by (with_reducible repeat (first | refine blk_drewN ?_ _ | refine blk_drew ?_ | refine blk_alloc ?_ _)); exact BK116.out) hb); have n1_ := Aside0.mk (below_step (by repeat (first | (with_reducible first | exact HB.out | apply below_alloc | apply pw_below_drewN | apply below_drew1 | refine below_set ?_ GE116.out) | exact HB.out)) hb); have n2_ := Aside0.mk (hbox); have n3_ := Aside0.mk ((by rw [hg]; exact (below_size (by repeat (first | (with_reducible first | exact HB.out | apply below_alloc | apply pw_below_drewN | apply below_drew1 | refine below_set ?_ GE116.out) | exact HB.out))) : w.heap.size ≤ gb118)); have n4_ := Aside0.mk ((by rw [hg]; exact (below_size (by repeat (first | (with_reducible first | exact HB.out | apply below_alloc | apply pw_below_drewN | apply below_drew1 | refine below_set ?_ GE116.out) | exact HB.out))) : w.heap.size ≤ gb118)); have n5_ := Aside0.mk ((by rw [hg]; exact Nat.ne_of_lt (blk_lt (g := gb116) (o := .cells #[.int .u32 0, .int .u32 0, .string (⟨#[]⟩ : ByteArray), .bool false, .int .u32 0] 34 (0, 0)) (by (with_reducible repeat (first | refine blk_drewN ?_ _ | refine blk_drew ?_ | refine blk_alloc ?_ _)); exact BK116.out)) : gb116 ≠ gb118)); have n6_ := Aside0.mk ((by rw [hg]; exact Nat.ne_of_gt (blk_lt (g := gb116) (o := .cells #[.int .u32 0, .int .u32 0, .string (⟨#[]⟩ : ByteArray), .bool false, .int .u32 0] 34 (0, 0)) (by (with_reducible repeat (first | refine blk_drewN ?_ _ | refine blk_drew ?_ | refine blk_alloc ?_ _)); exact BK116.out)) : gb118 ≠ gb116)); clear BK116; clear HB; have BK116 := n0_; have HB := n1_; have BK118 := n2_; have GW118 := n3_; have GE118 := n4_; have NB116_118 := n5_; have NB118_116 := n6_; clear n0_ n1_ n2_ n3_ n4_ n5_ n6_; clear hb hbox hg; have hnb6 := NB118_116.out; have hnc6 := NB116_118.out; have hcz7_0 : w5.cell? ⟨gb118, 0, none⟩ = some (.int .u32 0) := (blk_cell BK118.out 0).trans rfl; have hcz7_1 : w5.cell? ⟨gb118, 1, none⟩ = some (.int .u32 0) := (blk_cell BK118.out 1).trans rfl; have hcz7_2 : w5.cell? ⟨gb118, 2, none⟩ = some (.string (⟨#[]⟩ : ByteArray)) := (blk_cell BK118.out 2).trans rfl; have hcz7_3 : w5.cell? ⟨gb118, 3, none⟩ = some (.bool false) := (blk_cell BK118.out 3).trans rfl; have hcz7_4 : w5.cell? ⟨gb118, 4, none⟩ = some (.int .u32 0) := (blk_cell BK118.out 4).trans rfl; have hfz7_0 := blk_frozen BK118.out 0; have hfz7_1 := blk_frozen BK118.out 1; have hfz7_2 := blk_frozen BK118.out 2; have hfz7_3 := blk_frozen BK118.out 3; have hfz7_4 := blk_frozen BK118.out 4))
    go_loopg [16] k (fun kq v16 w' => ∃ (x16_1 : Int) (x117000_1 : Int) (x117001_1 : Int) (x117002_1 : ByteArray) (x117003_1 : Bool) (x117004_1 : Int) (x119000_1 : Int) (x119001_1 : Int) (x119002_1 : ByteArray) (x119003_1 : Bool) (x119004_1 : Int), v16 = .int .i64 x16_1 ∧ Aside0 (tree_walk.l0 kq l0 l1 (l1.length : Int) x16_1 x119000_1 x119001_1 x119002_1 x119003_1 x119004_1 = some (r1, r2, r3, r4, r5, r6)) ∧ Aside0 (kq ≤ k) ∧ Aside0 (w'.heap[gb116]? = some (.cells #[.int .u32 x117000_1, .int .u32 x117001_1, .string x117002_1, .bool x117003_1, .int .u32 x117004_1] 34 (0, 0))) ∧ Aside0 (w'.heap[gb118]? = some (.cells #[.int .u32 x119000_1, .int .u32 x119001_1, .string x119002_1, .bool x119003_1, .int .u32 x119004_1] 34 (0, 0))) ∧ Aside0 (Below w.heap.size w w'))
    case atStart => exact ⟨(0), (0), (0), ((⟨#[]⟩ : ByteArray)), (false), (0), ((rd_T34 l0 0).f0), ((rd_T34 l0 0).f1), ((rd_T34 l0 0).f2), ((rd_T34 l0 0).f3), ((rd_T34 l0 0).f4), (by first | rfl | (simp; done) | (simp [*]; done)), H', ⟨Nat.le_refl _⟩, ⟨by (with_reducible repeat (first | refine blk_drewN ?_ _ | refine blk_drew ?_ | refine blk_alloc ?_ _)); refine blk_far ?_ NB116_118.out _; (with_reducible repeat (first | refine blk_drewN ?_ _ | refine blk_drew ?_ | refine blk_alloc ?_ _)); refine blk_far ?_ NB116_118.out _; (with_reducible repeat (first | refine blk_drewN ?_ _ | refine blk_drew ?_ | refine blk_alloc ?_ _)); refine blk_far ?_ NB116_118.out _; (with_reducible repeat (first | refine blk_drewN ?_ _ | refine blk_drew ?_ | refine blk_alloc ?_ _)); refine blk_far ?_ NB116_118.out _; (with_reducible repeat (first | refine blk_drewN ?_ _ | refine blk_drew ?_ | refine blk_alloc ?_ _)); refine blk_far ?_ NB116_118.out _; (with_reducible repeat (first | refine blk_drewN ?_ _ | refine blk_drew ?_ | refine blk_alloc ?_ _)); exact BK116.out⟩, ⟨by (with_reducible repeat (first | refine blk_drewN ?_ _ | refine blk_drew ?_ | refine blk_alloc ?_ _)); refine blk_put (cs := #[.int .u32 ((rd_T34 l0 0).f0), .int .u32 ((rd_T34 l0 0).f1), .string ((rd_T34 l0 0).f2), .bool ((rd_T34 l0 0).f3), .int .u32 0]) ?_ 4 _ rfl; (with_reducible repeat (first | refine blk_drewN ?_ _ | refine blk_drew ?_ | refine blk_alloc ?_ _)); refine blk_put (cs := #[.int .u32 ((rd_T34 l0 0).f0), .int .u32 ((rd_T34 l0 0).f1), .string ((rd_T34 l0 0).f2), .bool false, .int .u32 0]) ?_ 3 _ rfl; (with_reducible repeat (first | refine blk_drewN ?_ _ | refine blk_drew ?_ | refine blk_alloc ?_ _)); refine blk_put (cs := #[.int .u32 ((rd_T34 l0 0).f0), .int .u32 ((rd_T34 l0 0).f1), .string (⟨#[]⟩ : ByteArray), .bool false, .int .u32 0]) ?_ 2 _ rfl; (with_reducible repeat (first | refine blk_drewN ?_ _ | refine blk_drew ?_ | refine blk_alloc ?_ _)); refine blk_put (cs := #[.int .u32 ((rd_T34 l0 0).f0), .int .u32 0, .string (⟨#[]⟩ : ByteArray), .bool false, .int .u32 0]) ?_ 1 _ rfl; (with_reducible repeat (first | refine blk_drewN ?_ _ | refine blk_drew ?_ | refine blk_alloc ?_ _)); refine blk_put (cs := #[.int .u32 0, .int .u32 0, .string (⟨#[]⟩ : ByteArray), .bool false, .int .u32 0]) ?_ 0 _ rfl; (with_reducible repeat (first | refine blk_drewN ?_ _ | refine blk_drew ?_ | refine blk_alloc ?_ _)); exact BK118.out⟩, ⟨by repeat (first | (with_reducible first | exact HB.out | apply below_alloc | apply pw_below_drewN | apply below_drew1 | refine below_set ?_ GE116.out | refine below_set ?_ GE118.out) | exact HB.out)⟩⟩
    case round =>
      clear H'
      try clear c1
      try clear p1
      try clear q1
      try clear hx1
      try clear qi1
      try clear p2
      try clear c3
      try clear c3b0
      try clear c3b1
      try clear c6
      try clear hcz7_0
      try clear hcz7_1
      try clear hcz7_2
      try clear hcz7_3
      try clear hcz7_4
      try clear hfz7_0
      try clear hfz7_1
      try clear hfz7_2
      try clear hfz7_3
      try clear hfz7_4
      try clear hx117_0
      try clear hx117_1
      try clear hx117_2
      try clear hx117_3
      try clear hx117_4
      try clear p117
      try clear q117
      obtain ⟨x16_1, x117000_1, x117001_1, x117002_1, x117003_1, x117004_1, x119000_1, x119001_1, x119002_1, x119003_1, x119004_1, rfl, HA, HK1, BK116, BK118, HB⟩ := hrel
      cases gk with
      | zero => exact absurd HA.out (by simp [tree_walk.l0])
      | succ k1 =>
        have H := HA.out
        clear HA
        simp only [tree_walk.l0] at H
        by_cases c8 : x16_1 < (l1.length : Int)
        · rw [if_pos c8] at H
          have c8b0 : decide (x16_1 < (l1.length : Int)) = true := decide_eq_true c8
          clear c8
          by_cases c9 : 0 ≤ x16_1
          · rw [if_pos c9] at H
            have c9b0 : decide (0 ≤ x16_1) = true := decide_eq_true c9
            clear c9
            by_cases c10 : x16_1 < (l1.length : Int)
            · rw [if_pos c10] at H
              have c10b0 : decide (x16_1 < (l1.length : Int)) = true := decide_eq_true c10
              clear c10
              by_cases c11 : x119003_1 = true
              · subst c11
                have H1 : ((tree_kid.f k1 l0 x119000_1 (rdOf ByteArray.empty l1 x16_1)).bind fun bt120 => (if bt120.2.2.2.2.2 = true then (tree_walk.l0 k1 l0 l1 (l1.length : Int) (wrap64 (x16_1 + 1)) bt120.1 bt120.2.1 bt120.2.2.1 bt120.2.2.2.1 bt120.2.2.2.2.1) else (some (0, 0, (⟨#[]⟩ : ByteArray), false, 0, 7)))) = some (r1, r2, r3, r4, r5, r6) := by rw [if_pos rfl] at H; exact H
                clear H
                have H := H1
                clear H1
                replace H := Option.bind_eq_some_iff.mp H
                obtain ⟨⟨t120, t121, t122, t123, t124, t125⟩, A120, H⟩ := H
                replace H : (if t125 = true then (tree_walk.l0 k1 l0 l1 (l1.length : Int) (wrap64 (x16_1 + 1)) t120 t121 t122 t123 t124) else (some (0, 0, (⟨#[]⟩ : ByteArray), false, 0, 7))) = some (r1, r2, r3, r4, r5, r6) := H
                have A12 := Aside0.mk A120
                clear A120
                by_cases c13 : t125 = true
                · subst c13
                  have H1 : (tree_walk.l0 k1 l0 l1 (l1.length : Int) (wrap64 (x16_1 + 1)) t120 t121 t122 t123 t124) = some (r1, r2, r3, r4, r5, r6) := by rw [if_pos rfl] at H; exact H
                  clear H
                  have H := H1
                  clear H1
                  have H' := Aside0.mk H
                  clear H
                  have p119 : 0 ≤ (x16_1 : Int) := of_decide_eq_true (by first | (with_reducible assumption) | assumption)
                  have q119 : x16_1 < (l1.length : Int) := of_decide_eq_true (by first | (with_reducible assumption) | assumption)
                  obtain ⟨ad119, e119, hx119_0⟩ := Kd.at_string HR1.out x16_1 p119 q119
                  cases e119
                  replace hx119_0 := (HB.out.cell (World.block_lt_of_cell? w _ hx119_0)).trans hx119_0
                  replace p119 := eq_true p119
                  replace q119 := eq_true q119
                  have hnb14 := NB118_116.out
                  have hnc14 := NB116_118.out
                  have hcz15_0 : wr.cell? ⟨gb118, 0, none⟩ = some (.int .u32 x119000_1) := (blk_cell BK118.out 0).trans rfl
                  have hcz15_1 : wr.cell? ⟨gb118, 1, none⟩ = some (.int .u32 x119001_1) := (blk_cell BK118.out 1).trans rfl
                  have hcz15_2 : wr.cell? ⟨gb118, 2, none⟩ = some (.string x119002_1) := (blk_cell BK118.out 2).trans rfl
                  have hcz15_3 : wr.cell? ⟨gb118, 3, none⟩ = some (.bool true) := (blk_cell BK118.out 3).trans rfl
                  have hcz15_4 : wr.cell? ⟨gb118, 4, none⟩ = some (.int .u32 x119004_1) := (blk_cell BK118.out 4).trans rfl
                  have hfz15_0 := blk_frozen BK118.out 0
                  have hfz15_1 := blk_frozen BK118.out 1
                  have hfz15_2 := blk_frozen BK118.out 2
                  have hfz15_3 := blk_frozen BK118.out 3
                  have hfz15_4 := blk_frozen BK118.out 4
                  go_wp2_with (first | ((with_reducible refine gate_callee (f := 37) rfl ?_); refine goesL_ (some 29) rfl rfl Tryd.func37 (by kernel_rfl) rfl #[.slice (some ad117) l0.length c0, .int .u32 x119000_1, .string (rdOf ByteArray.empty l1 x16_1)] rfl (by (try simp only [List.map_toArray, List.map_cons, List.map_nil]); first | done | rfl | (simp only [List.length_drop, List.length_take]; rfl)) ?_; (with_reducible refine (tree_kid.calls k1 _ _ l0 x119000_1 (rdOf ByteArray.empty l1 x16_1) t120 t121 t122 t123 t124 true _ ?side1 ?side2 A12.out).mono ?_); (case side1 => repeat (first | exact (Kd.C_below HR0.out HB.out) | (with_reducible refine Kd.C_alloc ?_ _) | (with_reducible refine Kd.C_drewN ?_ _) | (with_reducible refine Kd.C_drew ?_))); (case side2 => exact HC0.out); rintro e w16 ⟨rfl, hb⟩; refine ⟨_, rfl, ?_⟩; have n0_ := Aside0.mk (blk_below (g := gb116) (o := .cells #[.int .u32 x117000_1, .int .u32 x117001_1, .string x117002_1, .bool x117003_1, .int .u32 x117004_1] 34 (0, 0)) (by (with_reducible repeat (first | refine blk_drewN ?_ _ | refine blk_drew ?_ | refine blk_alloc ?_ _)); exact BK116.out) hb); have n1_ := Aside0.mk (blk_below (g := gb118) (o := .cells #[.int .u32 x119000_1, .int .u32 x119001_1, .string x119002_1, .bool true, .int .u32 x119004_1] 34 (0, 0)) (by (with_reducible repeat (first | refine blk_drewN ?_ _ | refine blk_drew ?_ | refine blk_alloc ?_ _)); exact BK118.out) hb); have n2_ := Aside0.mk (below_step (by repeat (first | (with_reducible first | exact HB.out | apply below_alloc | apply pw_below_drewN | apply below_drew1 | refine below_set ?_ GE116.out | refine below_set ?_ GE118.out) | exact HB.out)) hb); clear BK116; clear BK118; clear HB; have BK116 := n0_; have BK118 := n1_; have HB := n2_; clear n0_ n1_ n2_; (try clear hb); (try clear hb2); (try clear hk); (try clear hi)) | ((with_reducible refine gate_dst (N := 9) rfl ?_); refine box_event ?hg (N := 9) ?hd (cs := #[.int .u32 0, .int .u32 0, .string (⟨#[]⟩ : ByteArray), .bool false, .int .u32 0]) (t := 34) ?hr ?_; (case hd => rfl); (case hg => rfl); (case hr => first | (go_simp; done) | (go_simp; rfl)); intro gb126 hg w17 hbox hb; have n0_ := Aside0.mk (blk_below (g := gb116) (o := .cells #[.int .u32 x117000_1, .int .u32 x117001_1, .string x117002_1, .bool x117003_1, .int .u32 x117004_1] 34 (0, 0)) (by (with_reducible repeat (first | refine blk_drewN ?_ _ | refine blk_drew ?_ | refine blk_alloc ?_ _)); exact BK116.out) hb); have n1_ := Aside0.mk (blk_below (g := gb118) (o := .cells #[.int .u32 x119000_1, .int .u32 x119001_1, .string x119002_1, .bool true, .int .u32 x119004_1] 34 (0, 0)) (by (with_reducible repeat (first | refine blk_drewN ?_ _ | refine blk_drew ?_ | refine blk_alloc ?_ _)); exact BK118.out) hb); have n2_ := Aside0.mk (below_step (by repeat (first | (with_reducible first | exact HB.out | apply below_alloc | apply pw_below_drewN | apply below_drew1 | refine below_set ?_ GE116.out | refine below_set ?_ GE118.out) | exact HB.out)) hb); have n3_ := Aside0.mk (hbox); have n4_ := Aside0.mk ((by rw [hg]; exact (below_size (by repeat (first | (with_reducible first | exact HB.out | apply below_alloc | apply pw_below_drewN | apply below_drew1 | refine below_set ?_ GE116.out | refine below_set ?_ GE118.out) | exact HB.out))) : w.heap.size ≤ gb126)); have n5_ := Aside0.mk ((by rw [hg]; exact (below_size (by repeat (first | (with_reducible first | exact HB.out | apply below_alloc | apply pw_below_drewN | apply below_drew1 | refine below_set ?_ GE116.out | refine below_set ?_ GE118.out) | exact HB.out))) : w.heap.size ≤ gb126)); have n6_ := Aside0.mk ((by rw [hg]; exact Nat.ne_of_lt (blk_lt (g := gb116) (o := .cells #[.int .u32 x117000_1, .int .u32 x117001_1, .string x117002_1, .bool x117003_1, .int .u32 x117004_1] 34 (0, 0)) (by (with_reducible repeat (first | refine blk_drewN ?_ _ | refine blk_drew ?_ | refine blk_alloc ?_ _)); exact BK116.out)) : gb116 ≠ gb126)); have n7_ := Aside0.mk ((by rw [hg]; exact Nat.ne_of_gt (blk_lt (g := gb116) (o := .cells #[.int .u32 x117000_1, .int .u32 x117001_1, .string x117002_1, .bool x117003_1, .int .u32 x117004_1] 34 (0, 0)) (by (with_reducible repeat (first | refine blk_drewN ?_ _ | refine blk_drew ?_ | refine blk_alloc ?_ _)); exact BK116.out)) : gb126 ≠ gb116)); have n8_ := Aside0.mk ((by rw [hg]; exact Nat.ne_of_lt (blk_lt (g := gb118) (o := .cells #[.int .u32 x119000_1, .int .u32 x119001_1, .string x119002_1, .bool true, .int .u32 x119004_1] 34 (0, 0)) (by (with_reducible repeat (first | refine blk_drewN ?_ _ | refine blk_drew ?_ | refine blk_alloc ?_ _)); exact BK118.out)) : gb118 ≠ gb126)); have n9_ := Aside0.mk ((by rw [hg]; exact Nat.ne_of_gt (blk_lt (g := gb118) (o := .cells #[.int .u32 x119000_1, .int .u32 x119001_1, .string x119002_1, .bool true, .int .u32 x119004_1] 34 (0, 0)) (by (with_reducible repeat (first | refine blk_drewN ?_ _ | refine blk_drew ?_ | refine blk_alloc ?_ _)); exact BK118.out)) : gb126 ≠ gb118)); clear BK116; clear BK118; clear HB; have BK116 := n0_; have BK118 := n1_; have HB := n2_; have BK126 := n3_; have GW126 := n4_; have GE126 := n5_; have NB116_126 := n6_; have NB126_116 := n7_; have NB118_126 := n8_; have NB126_118 := n9_; clear n0_ n1_ n2_ n3_ n4_ n5_ n6_ n7_ n8_ n9_; clear hb hbox hg; have hnb18 := NB126_116.out; have hnc18 := NB116_126.out; have hnb19 := NB126_118.out; have hnc19 := NB118_126.out; have hcz20_0 : w17.cell? ⟨gb126, 0, none⟩ = some (.int .u32 0) := (blk_cell BK126.out 0).trans rfl; have hcz20_1 : w17.cell? ⟨gb126, 1, none⟩ = some (.int .u32 0) := (blk_cell BK126.out 1).trans rfl; have hcz20_2 : w17.cell? ⟨gb126, 2, none⟩ = some (.string (⟨#[]⟩ : ByteArray)) := (blk_cell BK126.out 2).trans rfl; have hcz20_3 : w17.cell? ⟨gb126, 3, none⟩ = some (.bool false) := (blk_cell BK126.out 3).trans rfl; have hcz20_4 : w17.cell? ⟨gb126, 4, none⟩ = some (.int .u32 0) := (blk_cell BK126.out 4).trans rfl; have hfz20_0 := blk_frozen BK126.out 0; have hfz20_1 := blk_frozen BK126.out 1; have hfz20_2 := blk_frozen BK126.out 2; have hfz20_3 := blk_frozen BK126.out 3; have hfz20_4 := blk_frozen BK126.out 4; have hcz21_0 : w17.cell? ⟨gb118, 0, none⟩ = some (.int .u32 x119000_1) := (blk_cell BK118.out 0).trans rfl; have hcz21_1 : w17.cell? ⟨gb118, 1, none⟩ = some (.int .u32 x119001_1) := (blk_cell BK118.out 1).trans rfl; have hcz21_2 : w17.cell? ⟨gb118, 2, none⟩ = some (.string x119002_1) := (blk_cell BK118.out 2).trans rfl; have hcz21_3 : w17.cell? ⟨gb118, 3, none⟩ = some (.bool true) := (blk_cell BK118.out 3).trans rfl; have hcz21_4 : w17.cell? ⟨gb118, 4, none⟩ = some (.int .u32 x119004_1) := (blk_cell BK118.out 4).trans rfl; have hfz21_0 := blk_frozen BK118.out 0; have hfz21_1 := blk_frozen BK118.out 1; have hfz21_2 := blk_frozen BK118.out 2; have hfz21_3 := blk_frozen BK118.out 3; have hfz21_4 := blk_frozen BK118.out 4))
                  go_roundg k1
                  case measure => have := HK1.out; omega
                  case rel => exact ⟨(wrap64 (x16_1 + 1)), (x117000_1), (x117001_1), (x117002_1), (x117003_1), (x117004_1), (t120), (t121), (t122), (t123), (t124), (by first | rfl | (simp; done) | (simp [*]; done)), H', ⟨by have := HK1.out; omega⟩, ⟨by (with_reducible repeat (first | refine blk_drewN ?_ _ | refine blk_drew ?_ | refine blk_alloc ?_ _)); refine blk_far ?_ NB116_118.out _; (with_reducible repeat (first | refine blk_drewN ?_ _ | refine blk_drew ?_ | refine blk_alloc ?_ _)); refine blk_far ?_ NB116_118.out _; (with_reducible repeat (first | refine blk_drewN ?_ _ | refine blk_drew ?_ | refine blk_alloc ?_ _)); refine blk_far ?_ NB116_118.out _; (with_reducible repeat (first | refine blk_drewN ?_ _ | refine blk_drew ?_ | refine blk_alloc ?_ _)); refine blk_far ?_ NB116_118.out _; (with_reducible repeat (first | refine blk_drewN ?_ _ | refine blk_drew ?_ | refine blk_alloc ?_ _)); refine blk_far ?_ NB116_118.out _; (with_reducible repeat (first | refine blk_drewN ?_ _ | refine blk_drew ?_ | refine blk_alloc ?_ _)); refine blk_far ?_ NB116_126.out _; (with_reducible repeat (first | refine blk_drewN ?_ _ | refine blk_drew ?_ | refine blk_alloc ?_ _)); refine blk_far ?_ NB116_126.out _; (with_reducible repeat (first | refine blk_drewN ?_ _ | refine blk_drew ?_ | refine blk_alloc ?_ _)); refine blk_far ?_ NB116_126.out _; (with_reducible repeat (first | refine blk_drewN ?_ _ | refine blk_drew ?_ | refine blk_alloc ?_ _)); refine blk_far ?_ NB116_126.out _; (with_reducible repeat (first | refine blk_drewN ?_ _ | refine blk_drew ?_ | refine blk_alloc ?_ _)); refine blk_far ?_ NB116_126.out _; (with_reducible repeat (first | refine blk_drewN ?_ _ | refine blk_drew ?_ | refine blk_alloc ?_ _)); exact BK116.out⟩, ⟨by (with_reducible repeat (first | refine blk_drewN ?_ _ | refine blk_drew ?_ | refine blk_alloc ?_ _)); refine blk_put (cs := #[.int .u32 t120, .int .u32 t121, .string t122, .bool t123, .int .u32 x119004_1]) ?_ 4 _ rfl; (with_reducible repeat (first | refine blk_drewN ?_ _ | refine blk_drew ?_ | refine blk_alloc ?_ _)); refine blk_put (cs := #[.int .u32 t120, .int .u32 t121, .string t122, .bool true, .int .u32 x119004_1]) ?_ 3 _ rfl; (with_reducible repeat (first | refine blk_drewN ?_ _ | refine blk_drew ?_ | refine blk_alloc ?_ _)); refine blk_put (cs := #[.int .u32 t120, .int .u32 t121, .string x119002_1, .bool true, .int .u32 x119004_1]) ?_ 2 _ rfl; (with_reducible repeat (first | refine blk_drewN ?_ _ | refine blk_drew ?_ | refine blk_alloc ?_ _)); refine blk_put (cs := #[.int .u32 t120, .int .u32 x119001_1, .string x119002_1, .bool true, .int .u32 x119004_1]) ?_ 1 _ rfl; (with_reducible repeat (first | refine blk_drewN ?_ _ | refine blk_drew ?_ | refine blk_alloc ?_ _)); refine blk_put (cs := #[.int .u32 x119000_1, .int .u32 x119001_1, .string x119002_1, .bool true, .int .u32 x119004_1]) ?_ 0 _ rfl; (with_reducible repeat (first | refine blk_drewN ?_ _ | refine blk_drew ?_ | refine blk_alloc ?_ _)); refine blk_far ?_ NB118_126.out _; (with_reducible repeat (first | refine blk_drewN ?_ _ | refine blk_drew ?_ | refine blk_alloc ?_ _)); refine blk_far ?_ NB118_126.out _; (with_reducible repeat (first | refine blk_drewN ?_ _ | refine blk_drew ?_ | refine blk_alloc ?_ _)); refine blk_far ?_ NB118_126.out _; (with_reducible repeat (first | refine blk_drewN ?_ _ | refine blk_drew ?_ | refine blk_alloc ?_ _)); refine blk_far ?_ NB118_126.out _; (with_reducible repeat (first | refine blk_drewN ?_ _ | refine blk_drew ?_ | refine blk_alloc ?_ _)); refine blk_far ?_ NB118_126.out _; (with_reducible repeat (first | refine blk_drewN ?_ _ | refine blk_drew ?_ | refine blk_alloc ?_ _)); exact BK118.out⟩, ⟨by repeat (first | (with_reducible first | exact HB.out | apply below_alloc | apply pw_below_drewN | apply below_drew1 | refine below_set ?_ GE116.out | refine below_set ?_ GE118.out | refine below_set ?_ GE126.out) | exact HB.out)⟩⟩
                · replace c13 := Bool.eq_false_iff.mpr c13
                  subst c13
                  have H1 : (some (0, 0, (⟨#[]⟩ : ByteArray), false, 0, 7)) = some (r1, r2, r3, r4, r5, r6) := by rw [if_neg (show ¬ (false = true) by decide)] at H; exact H
                  clear H
                  have H := H1
                  clear H1
                  simp only [Option.some.injEq, Prod.mk.injEq] at H
                  obtain ⟨rfl, rfl, rfl, rfl, rfl, rfl⟩ := H
                  have p119 : 0 ≤ (x16_1 : Int) := of_decide_eq_true (by first | (with_reducible assumption) | assumption)
                  have q119 : x16_1 < (l1.length : Int) := of_decide_eq_true (by first | (with_reducible assumption) | assumption)
                  obtain ⟨ad119, e119, hx119_0⟩ := Kd.at_string HR1.out x16_1 p119 q119
                  cases e119
                  replace hx119_0 := (HB.out.cell (World.block_lt_of_cell? w _ hx119_0)).trans hx119_0
                  replace p119 := eq_true p119
                  replace q119 := eq_true q119
                  have hnb22 := NB118_116.out
                  have hnc22 := NB116_118.out
                  have hcz23_0 : wr.cell? ⟨gb118, 0, none⟩ = some (.int .u32 x119000_1) := (blk_cell BK118.out 0).trans rfl
                  have hcz23_1 : wr.cell? ⟨gb118, 1, none⟩ = some (.int .u32 x119001_1) := (blk_cell BK118.out 1).trans rfl
                  have hcz23_2 : wr.cell? ⟨gb118, 2, none⟩ = some (.string x119002_1) := (blk_cell BK118.out 2).trans rfl
                  have hcz23_3 : wr.cell? ⟨gb118, 3, none⟩ = some (.bool true) := (blk_cell BK118.out 3).trans rfl
                  have hcz23_4 : wr.cell? ⟨gb118, 4, none⟩ = some (.int .u32 x119004_1) := (blk_cell BK118.out 4).trans rfl
                  have hfz23_0 := blk_frozen BK118.out 0
                  have hfz23_1 := blk_frozen BK118.out 1
                  have hfz23_2 := blk_frozen BK118.out 2
                  have hfz23_3 := blk_frozen BK118.out 3
                  have hfz23_4 := blk_frozen BK118.out 4
                  go_wp2_with (first | ((with_reducible refine gate_callee (f := 37) rfl ?_); refine goesL_ (some 29) rfl rfl Tryd.func37 (by kernel_rfl) rfl #[.slice (some ad117) l0.length c0, .int .u32 x119000_1, .string (rdOf ByteArray.empty l1 x16_1)] rfl (by (try simp only [List.map_toArray, List.map_cons, List.map_nil]); first | done | rfl | (simp only [List.length_drop, List.length_take]; rfl)) ?_; (with_reducible refine (tree_kid.calls k1 _ _ l0 x119000_1 (rdOf ByteArray.empty l1 x16_1) t120 t121 t122 t123 t124 false _ ?side1 ?side2 A12.out).mono ?_); (case side1 => repeat (first | exact (Kd.C_below HR0.out HB.out) | (with_reducible refine Kd.C_alloc ?_ _) | (with_reducible refine Kd.C_drewN ?_ _) | (with_reducible refine Kd.C_drew ?_))); (case side2 => exact HC0.out); rintro e w24 ⟨rfl, hb⟩; refine ⟨_, rfl, ?_⟩; have n0_ := Aside0.mk (blk_below (g := gb116) (o := .cells #[.int .u32 x117000_1, .int .u32 x117001_1, .string x117002_1, .bool x117003_1, .int .u32 x117004_1] 34 (0, 0)) (by (with_reducible repeat (first | refine blk_drewN ?_ _ | refine blk_drew ?_ | refine blk_alloc ?_ _)); exact BK116.out) hb); have n1_ := Aside0.mk (blk_below (g := gb118) (o := .cells #[.int .u32 x119000_1, .int .u32 x119001_1, .string x119002_1, .bool true, .int .u32 x119004_1] 34 (0, 0)) (by (with_reducible repeat (first | refine blk_drewN ?_ _ | refine blk_drew ?_ | refine blk_alloc ?_ _)); exact BK118.out) hb); have n2_ := Aside0.mk (below_step (by repeat (first | (with_reducible first | exact HB.out | apply below_alloc | apply pw_below_drewN | apply below_drew1 | refine below_set ?_ GE116.out | refine below_set ?_ GE118.out) | exact HB.out)) hb); clear BK116; clear BK118; clear HB; have BK116 := n0_; have BK118 := n1_; have HB := n2_; clear n0_ n1_ n2_; (try clear hb); (try clear hb2); (try clear hk); (try clear hi)) | ((with_reducible refine gate_dst (N := 9) rfl ?_); refine box_event ?hg (N := 9) ?hd (cs := #[.int .u32 0, .int .u32 0, .string (⟨#[]⟩ : ByteArray), .bool false, .int .u32 0]) (t := 34) ?hr ?_; (case hd => rfl); (case hg => rfl); (case hr => first | (go_simp; done) | (go_simp; rfl)); intro gb126 hg w25 hbox hb; have n0_ := Aside0.mk (blk_below (g := gb116) (o := .cells #[.int .u32 x117000_1, .int .u32 x117001_1, .string x117002_1, .bool x117003_1, .int .u32 x117004_1] 34 (0, 0)) (by (with_reducible repeat (first | refine blk_drewN ?_ _ | refine blk_drew ?_ | refine blk_alloc ?_ _)); exact BK116.out) hb); have n1_ := Aside0.mk (blk_below (g := gb118) (o := .cells #[.int .u32 x119000_1, .int .u32 x119001_1, .string x119002_1, .bool true, .int .u32 x119004_1] 34 (0, 0)) (by (with_reducible repeat (first | refine blk_drewN ?_ _ | refine blk_drew ?_ | refine blk_alloc ?_ _)); exact BK118.out) hb); have n2_ := Aside0.mk (below_step (by repeat (first | (with_reducible first | exact HB.out | apply below_alloc | apply pw_below_drewN | apply below_drew1 | refine below_set ?_ GE116.out | refine below_set ?_ GE118.out) | exact HB.out)) hb); have n3_ := Aside0.mk (hbox); have n4_ := Aside0.mk ((by rw [hg]; exact (below_size (by repeat (first | (with_reducible first | exact HB.out | apply below_alloc | apply pw_below_drewN | apply below_drew1 | refine below_set ?_ GE116.out | refine below_set ?_ GE118.out) | exact HB.out))) : w.heap.size ≤ gb126)); have n5_ := Aside0.mk ((by rw [hg]; exact (below_size (by repeat (first | (with_reducible first | exact HB.out | apply below_alloc | apply pw_below_drewN | apply below_drew1 | refine below_set ?_ GE116.out | refine below_set ?_ GE118.out) | exact HB.out))) : w.heap.size ≤ gb126)); have n6_ := Aside0.mk ((by rw [hg]; exact Nat.ne_of_lt (blk_lt (g := gb116) (o := .cells #[.int .u32 x117000_1, .int .u32 x117001_1, .string x117002_1, .bool x117003_1, .int .u32 x117004_1] 34 (0, 0)) (by (with_reducible repeat (first | refine blk_drewN ?_ _ | refine blk_drew ?_ | refine blk_alloc ?_ _)); exact BK116.out)) : gb116 ≠ gb126)); have n7_ := Aside0.mk ((by rw [hg]; exact Nat.ne_of_gt (blk_lt (g := gb116) (o := .cells #[.int .u32 x117000_1, .int .u32 x117001_1, .string x117002_1, .bool x117003_1, .int .u32 x117004_1] 34 (0, 0)) (by (with_reducible repeat (first | refine blk_drewN ?_ _ | refine blk_drew ?_ | refine blk_alloc ?_ _)); exact BK116.out)) : gb126 ≠ gb116)); have n8_ := Aside0.mk ((by rw [hg]; exact Nat.ne_of_lt (blk_lt (g := gb118) (o := .cells #[.int .u32 x119000_1, .int .u32 x119001_1, .string x119002_1, .bool true, .int .u32 x119004_1] 34 (0, 0)) (by (with_reducible repeat (first | refine blk_drewN ?_ _ | refine blk_drew ?_ | refine blk_alloc ?_ _)); exact BK118.out)) : gb118 ≠ gb126)); have n9_ := Aside0.mk ((by rw [hg]; exact Nat.ne_of_gt (blk_lt (g := gb118) (o := .cells #[.int .u32 x119000_1, .int .u32 x119001_1, .string x119002_1, .bool true, .int .u32 x119004_1] 34 (0, 0)) (by (with_reducible repeat (first | refine blk_drewN ?_ _ | refine blk_drew ?_ | refine blk_alloc ?_ _)); exact BK118.out)) : gb126 ≠ gb118)); clear BK116; clear BK118; clear HB; have BK116 := n0_; have BK118 := n1_; have HB := n2_; have BK126 := n3_; have GW126 := n4_; have GE126 := n5_; have NB116_126 := n6_; have NB126_116 := n7_; have NB118_126 := n8_; have NB126_118 := n9_; clear n0_ n1_ n2_ n3_ n4_ n5_ n6_ n7_ n8_ n9_; clear hb hbox hg; have hnb26 := NB126_116.out; have hnc26 := NB116_126.out; have hnb27 := NB126_118.out; have hnc27 := NB118_126.out; have hcz28_0 : w25.cell? ⟨gb126, 0, none⟩ = some (.int .u32 0) := (blk_cell BK126.out 0).trans rfl; have hcz28_1 : w25.cell? ⟨gb126, 1, none⟩ = some (.int .u32 0) := (blk_cell BK126.out 1).trans rfl; have hcz28_2 : w25.cell? ⟨gb126, 2, none⟩ = some (.string (⟨#[]⟩ : ByteArray)) := (blk_cell BK126.out 2).trans rfl; have hcz28_3 : w25.cell? ⟨gb126, 3, none⟩ = some (.bool false) := (blk_cell BK126.out 3).trans rfl; have hcz28_4 : w25.cell? ⟨gb126, 4, none⟩ = some (.int .u32 0) := (blk_cell BK126.out 4).trans rfl; have hfz28_0 := blk_frozen BK126.out 0; have hfz28_1 := blk_frozen BK126.out 1; have hfz28_2 := blk_frozen BK126.out 2; have hfz28_3 := blk_frozen BK126.out 3; have hfz28_4 := blk_frozen BK126.out 4; have hcz29_0 : w25.cell? ⟨gb116, 0, none⟩ = some (.int .u32 x117000_1) := (blk_cell BK116.out 0).trans rfl; have hcz29_1 : w25.cell? ⟨gb116, 1, none⟩ = some (.int .u32 x117001_1) := (blk_cell BK116.out 1).trans rfl; have hcz29_2 : w25.cell? ⟨gb116, 2, none⟩ = some (.string x117002_1) := (blk_cell BK116.out 2).trans rfl; have hcz29_3 : w25.cell? ⟨gb116, 3, none⟩ = some (.bool x117003_1) := (blk_cell BK116.out 3).trans rfl; have hcz29_4 : w25.cell? ⟨gb116, 4, none⟩ = some (.int .u32 x117004_1) := (blk_cell BK116.out 4).trans rfl; have hfz29_0 := blk_frozen BK116.out 0; have hfz29_1 := blk_frozen BK116.out 1; have hfz29_2 := blk_frozen BK116.out 2; have hfz29_3 := blk_frozen BK116.out 3; have hfz29_4 := blk_frozen BK116.out 4))
                  refine bodyPost_ret (results_ct rfl _ _ gb116 34 #[.int .u32 0, .int .u32 0, .string (⟨#[]⟩ : ByteArray), .bool false, .int .u32 0] (0, 0) _ rfl (by (with_reducible repeat (first | refine blk_drewN ?_ _ | refine blk_drew ?_ | refine blk_alloc ?_ _)); refine blk_put (cs := #[.int .u32 0, .int .u32 0, .string (⟨#[]⟩ : ByteArray), .bool false, .int .u32 x117004_1]) ?_ 4 _ rfl; (with_reducible repeat (first | refine blk_drewN ?_ _ | refine blk_drew ?_ | refine blk_alloc ?_ _)); refine blk_put (cs := #[.int .u32 0, .int .u32 0, .string (⟨#[]⟩ : ByteArray), .bool x117003_1, .int .u32 x117004_1]) ?_ 3 _ rfl; (with_reducible repeat (first | refine blk_drewN ?_ _ | refine blk_drew ?_ | refine blk_alloc ?_ _)); refine blk_put (cs := #[.int .u32 0, .int .u32 0, .string x117002_1, .bool x117003_1, .int .u32 x117004_1]) ?_ 2 _ rfl; (with_reducible repeat (first | refine blk_drewN ?_ _ | refine blk_drew ?_ | refine blk_alloc ?_ _)); refine blk_put (cs := #[.int .u32 0, .int .u32 x117001_1, .string x117002_1, .bool x117003_1, .int .u32 x117004_1]) ?_ 1 _ rfl; (with_reducible repeat (first | refine blk_drewN ?_ _ | refine blk_drew ?_ | refine blk_alloc ?_ _)); refine blk_put (cs := #[.int .u32 x117000_1, .int .u32 x117001_1, .string x117002_1, .bool x117003_1, .int .u32 x117004_1]) ?_ 0 _ rfl; (with_reducible repeat (first | refine blk_drewN ?_ _ | refine blk_drew ?_ | refine blk_alloc ?_ _)); refine blk_far ?_ NB116_126.out _; (with_reducible repeat (first | refine blk_drewN ?_ _ | refine blk_drew ?_ | refine blk_alloc ?_ _)); refine blk_far ?_ NB116_126.out _; (with_reducible repeat (first | refine blk_drewN ?_ _ | refine blk_drew ?_ | refine blk_alloc ?_ _)); refine blk_far ?_ NB116_126.out _; (with_reducible repeat (first | refine blk_drewN ?_ _ | refine blk_drew ?_ | refine blk_alloc ?_ _)); refine blk_far ?_ NB116_126.out _; (with_reducible repeat (first | refine blk_drewN ?_ _ | refine blk_drew ?_ | refine blk_alloc ?_ _)); refine blk_far ?_ NB116_126.out _; (with_reducible repeat (first | refine blk_drewN ?_ _ | refine blk_drew ?_ | refine blk_alloc ?_ _)); exact BK116.out) Tryd.underlying34 rfl (by kernel_rfl)) rfl ?_
                  exact ⟨by first | rfl | (simp [errW_none, errW_some] <;> rfl) | (simp [*, errW_none, errW_some] <;> rfl), by repeat (first | (with_reducible first | exact HB.out | apply below_alloc | apply pw_below_drewN | apply below_drew1 | refine below_set ?_ GE116.out | refine below_set ?_ GE118.out | refine below_set ?_ GE126.out) | exact HB.out)⟩
              · replace c11 := Bool.eq_false_iff.mpr c11
                subst c11
                have H1 : (some (0, 0, (⟨#[]⟩ : ByteArray), false, 0, 10)) = some (r1, r2, r3, r4, r5, r6) := by rw [if_neg (show ¬ (false = true) by decide)] at H; exact H
                clear H
                have H := H1
                clear H1
                simp only [Option.some.injEq, Prod.mk.injEq] at H
                obtain ⟨rfl, rfl, rfl, rfl, rfl, rfl⟩ := H
                have p119 : 0 ≤ (x16_1 : Int) := of_decide_eq_true (by first | (with_reducible assumption) | assumption)
                have q119 : x16_1 < (l1.length : Int) := of_decide_eq_true (by first | (with_reducible assumption) | assumption)
                obtain ⟨ad119, e119, hx119_0⟩ := Kd.at_string HR1.out x16_1 p119 q119
                cases e119
                replace hx119_0 := (HB.out.cell (World.block_lt_of_cell? w _ hx119_0)).trans hx119_0
                replace p119 := eq_true p119
                replace q119 := eq_true q119
                have hnb30 := NB118_116.out
                have hnc30 := NB116_118.out
                have hcz31_0 : wr.cell? ⟨gb118, 0, none⟩ = some (.int .u32 x119000_1) := (blk_cell BK118.out 0).trans rfl
                have hcz31_1 : wr.cell? ⟨gb118, 1, none⟩ = some (.int .u32 x119001_1) := (blk_cell BK118.out 1).trans rfl
                have hcz31_2 : wr.cell? ⟨gb118, 2, none⟩ = some (.string x119002_1) := (blk_cell BK118.out 2).trans rfl
                have hcz31_3 : wr.cell? ⟨gb118, 3, none⟩ = some (.bool false) := (blk_cell BK118.out 3).trans rfl
                have hcz31_4 : wr.cell? ⟨gb118, 4, none⟩ = some (.int .u32 x119004_1) := (blk_cell BK118.out 4).trans rfl
                have hfz31_0 := blk_frozen BK118.out 0
                have hfz31_1 := blk_frozen BK118.out 1
                have hfz31_2 := blk_frozen BK118.out 2
                have hfz31_3 := blk_frozen BK118.out 3
                have hfz31_4 := blk_frozen BK118.out 4
                have hcz32_0 : wr.cell? ⟨gb116, 0, none⟩ = some (.int .u32 x117000_1) := (blk_cell BK116.out 0).trans rfl
                have hcz32_1 : wr.cell? ⟨gb116, 1, none⟩ = some (.int .u32 x117001_1) := (blk_cell BK116.out 1).trans rfl
                have hcz32_2 : wr.cell? ⟨gb116, 2, none⟩ = some (.string x117002_1) := (blk_cell BK116.out 2).trans rfl
                have hcz32_3 : wr.cell? ⟨gb116, 3, none⟩ = some (.bool x117003_1) := (blk_cell BK116.out 3).trans rfl
                have hcz32_4 : wr.cell? ⟨gb116, 4, none⟩ = some (.int .u32 x117004_1) := (blk_cell BK116.out 4).trans rfl
                have hfz32_0 := blk_frozen BK116.out 0
                have hfz32_1 := blk_frozen BK116.out 1
                have hfz32_2 := blk_frozen BK116.out 2
                have hfz32_3 := blk_frozen BK116.out 3
                have hfz32_4 := blk_frozen BK116.out 4
                go_wp2
                refine bodyPost_ret (results_ct rfl _ _ gb116 34 #[.int .u32 0, .int .u32 0, .string (⟨#[]⟩ : ByteArray), .bool false, .int .u32 0] (0, 0) _ rfl (by (with_reducible repeat (first | refine blk_drewN ?_ _ | refine blk_drew ?_ | refine blk_alloc ?_ _)); refine blk_put (cs := #[.int .u32 0, .int .u32 0, .string (⟨#[]⟩ : ByteArray), .bool false, .int .u32 x117004_1]) ?_ 4 _ rfl; (with_reducible repeat (first | refine blk_drewN ?_ _ | refine blk_drew ?_ | refine blk_alloc ?_ _)); refine blk_put (cs := #[.int .u32 0, .int .u32 0, .string (⟨#[]⟩ : ByteArray), .bool x117003_1, .int .u32 x117004_1]) ?_ 3 _ rfl; (with_reducible repeat (first | refine blk_drewN ?_ _ | refine blk_drew ?_ | refine blk_alloc ?_ _)); refine blk_put (cs := #[.int .u32 0, .int .u32 0, .string x117002_1, .bool x117003_1, .int .u32 x117004_1]) ?_ 2 _ rfl; (with_reducible repeat (first | refine blk_drewN ?_ _ | refine blk_drew ?_ | refine blk_alloc ?_ _)); refine blk_put (cs := #[.int .u32 0, .int .u32 x117001_1, .string x117002_1, .bool x117003_1, .int .u32 x117004_1]) ?_ 1 _ rfl; (with_reducible repeat (first | refine blk_drewN ?_ _ | refine blk_drew ?_ | refine blk_alloc ?_ _)); refine blk_put (cs := #[.int .u32 x117000_1, .int .u32 x117001_1, .string x117002_1, .bool x117003_1, .int .u32 x117004_1]) ?_ 0 _ rfl; (with_reducible repeat (first | refine blk_drewN ?_ _ | refine blk_drew ?_ | refine blk_alloc ?_ _)); exact BK116.out) Tryd.underlying34 rfl (by kernel_rfl)) rfl ?_
                exact ⟨by first | rfl | (simp [errW_none, errW_some] <;> rfl) | (simp [*, errW_none, errW_some] <;> rfl), by repeat (first | (with_reducible first | exact HB.out | apply below_alloc | apply pw_below_drewN | apply below_drew1 | refine below_set ?_ GE116.out | refine below_set ?_ GE118.out) | exact HB.out)⟩
            · rw [if_neg c10] at H
              exact absurd H (by simp)
          · rw [if_neg c9] at H
            exact absurd H (by simp)
        · rw [if_neg c8] at H
          have c8b0 : decide (x16_1 < (l1.length : Int)) = false := decide_eq_false c8
          clear c8
          simp only [Option.some.injEq, Prod.mk.injEq] at H
          obtain ⟨rfl, rfl, rfl, rfl, rfl, rfl⟩ := H
          have hnb33 := NB118_116.out
          have hnc33 := NB116_118.out
          have hcz34_0 : wr.cell? ⟨gb118, 0, none⟩ = some (.int .u32 x119000_1) := (blk_cell BK118.out 0).trans rfl
          have hcz34_1 : wr.cell? ⟨gb118, 1, none⟩ = some (.int .u32 x119001_1) := (blk_cell BK118.out 1).trans rfl
          have hcz34_2 : wr.cell? ⟨gb118, 2, none⟩ = some (.string x119002_1) := (blk_cell BK118.out 2).trans rfl
          have hcz34_3 : wr.cell? ⟨gb118, 3, none⟩ = some (.bool x119003_1) := (blk_cell BK118.out 3).trans rfl
          have hcz34_4 : wr.cell? ⟨gb118, 4, none⟩ = some (.int .u32 x119004_1) := (blk_cell BK118.out 4).trans rfl
          have hfz34_0 := blk_frozen BK118.out 0
          have hfz34_1 := blk_frozen BK118.out 1
          have hfz34_2 := blk_frozen BK118.out 2
          have hfz34_3 := blk_frozen BK118.out 3
          have hfz34_4 := blk_frozen BK118.out 4
          have hcz35_0 : wr.cell? ⟨gb116, 0, none⟩ = some (.int .u32 x117000_1) := (blk_cell BK116.out 0).trans rfl
          have hcz35_1 : wr.cell? ⟨gb116, 1, none⟩ = some (.int .u32 x117001_1) := (blk_cell BK116.out 1).trans rfl
          have hcz35_2 : wr.cell? ⟨gb116, 2, none⟩ = some (.string x117002_1) := (blk_cell BK116.out 2).trans rfl
          have hcz35_3 : wr.cell? ⟨gb116, 3, none⟩ = some (.bool x117003_1) := (blk_cell BK116.out 3).trans rfl
          have hcz35_4 : wr.cell? ⟨gb116, 4, none⟩ = some (.int .u32 x117004_1) := (blk_cell BK116.out 4).trans rfl
          have hfz35_0 := blk_frozen BK116.out 0
          have hfz35_1 := blk_frozen BK116.out 1
          have hfz35_2 := blk_frozen BK116.out 2
          have hfz35_3 := blk_frozen BK116.out 3
          have hfz35_4 := blk_frozen BK116.out 4
          go_wp2
          refine bodyPost_ret (results_ct rfl _ _ gb116 34 #[.int .u32 x119000_1, .int .u32 x119001_1, .string x119002_1, .bool x119003_1, .int .u32 x119004_1] (0, 0) _ rfl (by (with_reducible repeat (first | refine blk_drewN ?_ _ | refine blk_drew ?_ | refine blk_alloc ?_ _)); refine blk_put (cs := #[.int .u32 x119000_1, .int .u32 x119001_1, .string x119002_1, .bool x119003_1, .int .u32 x117004_1]) ?_ 4 _ rfl; (with_reducible repeat (first | refine blk_drewN ?_ _ | refine blk_drew ?_ | refine blk_alloc ?_ _)); refine blk_put (cs := #[.int .u32 x119000_1, .int .u32 x119001_1, .string x119002_1, .bool x117003_1, .int .u32 x117004_1]) ?_ 3 _ rfl; (with_reducible repeat (first | refine blk_drewN ?_ _ | refine blk_drew ?_ | refine blk_alloc ?_ _)); refine blk_put (cs := #[.int .u32 x119000_1, .int .u32 x119001_1, .string x117002_1, .bool x117003_1, .int .u32 x117004_1]) ?_ 2 _ rfl; (with_reducible repeat (first | refine blk_drewN ?_ _ | refine blk_drew ?_ | refine blk_alloc ?_ _)); refine blk_put (cs := #[.int .u32 x119000_1, .int .u32 x117001_1, .string x117002_1, .bool x117003_1, .int .u32 x117004_1]) ?_ 1 _ rfl; (with_reducible repeat (first | refine blk_drewN ?_ _ | refine blk_drew ?_ | refine blk_alloc ?_ _)); refine blk_put (cs := #[.int .u32 x117000_1, .int .u32 x117001_1, .string x117002_1, .bool x117003_1, .int .u32 x117004_1]) ?_ 0 _ rfl; (with_reducible repeat (first | refine blk_drewN ?_ _ | refine blk_drew ?_ | refine blk_alloc ?_ _)); exact BK116.out) Tryd.underlying34 rfl (by kernel_rfl)) rfl ?_
          exact ⟨by first | rfl | (simp [errW_none, errW_some] <;> rfl) | (simp [*, errW_none, errW_some] <;> rfl), by repeat (first | (with_reducible first | exact HB.out | apply below_alloc | apply pw_below_drewN | apply below_drew1 | refine below_set ?_ GE116.out | refine below_set ?_ GE118.out) | exact HB.out)⟩
  · rw [if_neg c3] at H
    exact absurd H (by simp)

end Go.Proofs.YthbdgahmlggpmaaDoor.Q
