-- Printed by wip/pr.py of this work, over the kit's print, with functions proved by hand in their places.
import Derived.Test.YthbdgahmlggpmaaDoorQ0
import Derived.Test.YthbdgahmlggpmaaDoorQ4
namespace Go.Proofs.YthbdgahmlggpmaaDoor.Q
open Go.RowKit Go.Proofs.YthbdgahmlggpmaaDoorW.PrintWords Go.Proofs.YthbdgahmlggpmaaDoorW.PrintLast Go.Proofs.YthbdgahmlggpmaaDoorW.PrintMore
attribute [local go_sem] max2_int min2_int max_two min_two max_three min_three max_four min_four   -- for this text's walks alone
set_option linter.unusedVariables false
set_option linter.unusedSimpArgs false

/-! ### tree_above: function 36 -/
def tree_above.f (k : Nat) (l0 : List (S34)) (l1 : List ByteArray) : Option (Int × Int × ByteArray × Bool × Int × ByteArray × Int) := if (l1.length : Int) = 0 then (some (0, 0, (⟨#[]⟩ : ByteArray), false, 0, (⟨#[]⟩ : ByteArray), 8)) else (if 0 ≤ (wrap64 ((l1.length : Int) - 1)) then (if (wrap64 ((l1.length : Int) - 1)) ≤ (l1.length : Int) then ((tree_walk.f k l0 (l1.take ((wrap64 ((l1.length : Int) - 1)) : Int).toNat)).bind fun bt129 => (if bt129.2.2.2.2.2 = 0 then (if bt129.2.2.2.1 = true then (if (wrap64 ((l1.length : Int) - 1)) < (l1.length : Int) then (some (bt129.1, bt129.2.1, bt129.2.2.1, bt129.2.2.2.1, bt129.2.2.2.2.1, rdOf ByteArray.empty l1 (wrap64 ((l1.length : Int) - 1)), bt129.2.2.2.2.2)) else (none)) else (if (wrap64 ((l1.length : Int) - 1)) < (l1.length : Int) then (some (bt129.1, bt129.2.1, bt129.2.2.1, bt129.2.2.2.1, bt129.2.2.2.2.1, rdOf ByteArray.empty l1 (wrap64 ((l1.length : Int) - 1)), 10)) else (none))) else (if (wrap64 ((l1.length : Int) - 1)) < (l1.length : Int) then (some (bt129.1, bt129.2.1, bt129.2.2.1, bt129.2.2.2.1, bt129.2.2.2.2.1, rdOf ByteArray.empty l1 (wrap64 ((l1.length : Int) - 1)), bt129.2.2.2.2.2)) else (none)))) else (none)) else (none))
theorem tree_above.mono : ∀ a0 a1 k, LeO (tree_above.f k a0 a1) (tree_above.f (k + 1) a0 a1) := by
  intro a0 a1 k
  unfold tree_above.f
  repeat' first
      | (with_reducible exact tree_walk.mono _ _ _)
      | (with_reducible exact LeO.refl _)
      | (with_reducible exact LeO.none _)
      | (with_reducible refine LeO.ite ?_ ?_)
      | (with_reducible refine LeO.bind ?_ (fun _ => ?_))
      | exact tree_walk.mono _ _ _
      | exact LeO.none _
      | refine LeO.ite ?_ ?_
      | refine LeO.bind ?_ (fun _ => ?_)
def tree_above.T7 : Bool × List (List Nat × List Nat) := (true, [([], []), ([], []), ([], []), ([1, 2], [1, 2]), ([3], [3]), ([], []), ([0, 0], [0]), ([4, 6, 0, 1, 2, 3, 4, 6], [4]), ([5, 7, 0, 1, 2, 3, 4, 5, 6, 7], [5])])
def tree_above.B7 : List Nat := [0, 0, 0, 6, 14, 0, 1, 95, 255]
theorem tree_above.tab7 : rtab .any (opsOf Tryd.f36 7) = tree_above.T7 := by kernel_rfl
theorem tree_above.bits7 : waitsOk tree_above.T7.2 tree_above.B7 = true := by kernel_rfl
set_option maxHeartbeats 8000000 in
set_option maxRecDepth 100000 in
theorem tree_above.calls (k : Nat) (A0 : Option Addr) (c0 : Nat) (l0 : List (S34)) (A1 : Option Addr) (c1 : Nat) (l1 : List ByteArray) (r1 : Int) (r2 : Int) (r3 : ByteArray) (r4 : Bool) (r5 : Int) (r6 : ByteArray) (r7 : Int) (w : World) (hr0 : Kd.C k34 w A0 l0.length l0) (hc0 : l0.length ≤ c0) (hr1 : Kd.C Kd.string w A1 l1.length l1) (hc1 : l1.length ≤ c1) (h : tree_above.f k l0 l1 = some (r1, r2, r3, r4, r5, r6, r7)) :
    Calls Tryd.prog 36 #[.slice A0 l0.length c0, .slice A1 l1.length c1] w fun e w' => e = .returned (.tuple #[.agg #[.int .u32 r1, .int .u32 r2, .string r3, .bool r4, .int .u32 r5], .string r6, .int .i64 r7]) ∧ Below w.heap.size w w' := by
  have hu34 := Tryd.underlying34
  have HR0 := Aside0.mk hr0
  have HC0 := Aside0.mk hc0
  clear hr0 hc0
  have HR1 := Aside0.mk hr1
  have HC1 := Aside0.mk hc1
  clear hr1 hc1
  have HB := Aside0.mk (Below.refl w.heap.size w)
  have H : (if (l1.length : Int) = 0 then (some (0, 0, (⟨#[]⟩ : ByteArray), false, 0, (⟨#[]⟩ : ByteArray), 8)) else (if 0 ≤ (wrap64 ((l1.length : Int) - 1)) then (if (wrap64 ((l1.length : Int) - 1)) ≤ (l1.length : Int) then ((tree_walk.f k l0 (l1.take ((wrap64 ((l1.length : Int) - 1)) : Int).toNat)).bind fun bt129 => (if bt129.2.2.2.2.2 = 0 then (if bt129.2.2.2.1 = true then (if (wrap64 ((l1.length : Int) - 1)) < (l1.length : Int) then (some (bt129.1, bt129.2.1, bt129.2.2.1, bt129.2.2.2.1, bt129.2.2.2.2.1, rdOf ByteArray.empty l1 (wrap64 ((l1.length : Int) - 1)), bt129.2.2.2.2.2)) else (none)) else (if (wrap64 ((l1.length : Int) - 1)) < (l1.length : Int) then (some (bt129.1, bt129.2.1, bt129.2.2.1, bt129.2.2.2.1, bt129.2.2.2.2.1, rdOf ByteArray.empty l1 (wrap64 ((l1.length : Int) - 1)), 10)) else (none))) else (if (wrap64 ((l1.length : Int) - 1)) < (l1.length : Int) then (some (bt129.1, bt129.2.1, bt129.2.2.1, bt129.2.2.2.1, bt129.2.2.2.2.1, rdOf ByteArray.empty l1 (wrap64 ((l1.length : Int) - 1)), bt129.2.2.2.2.2)) else (none)))) else (none)) else (none))) = some (r1, r2, r3, r4, r5, r6, r7) := h
  clear h
  by_cases c3 : (l1.length : Int) = 0
  · rw [if_pos c3] at H
    have c3b0 : ((l1.length : Int) == 0) = true := beq_iff_eq.mpr c3
    have c3b1 : ((l1.length : Int) != 0) = false := bne_eq_false_iff_eq.mpr c3
    clear c3
    simp only [Option.some.injEq, Prod.mk.injEq] at H
    obtain ⟨rfl, rfl, rfl, rfl, rfl, rfl, rfl⟩ := H
    go_enter Tryd.func36, Tryd.ntmps36
    go_wp2_with (first | ((with_reducible refine gate_dst (N := 4) rfl ?_); refine box_event ?hg (N := 4) ?hd (cs := #[.int .u32 0, .int .u32 0, .string (⟨#[]⟩ : ByteArray), .bool false, .int .u32 0]) (t := 34) ?hr ?_; (case hd => rfl); (case hg => rfl); (case hr => first | (go_simp; done) | (go_simp; rfl)); intro gb127 hg w4 hbox hb; have n0_ := Aside0.mk (below_step (by repeat (first | (with_reducible first | exact HB.out | apply below_alloc | apply pw_below_drewN | apply below_drew1) | exact HB.out)) hb); have n1_ := Aside0.mk (hbox); have n2_ := Aside0.mk ((by rw [hg]; exact (below_size (by repeat (first | (with_reducible first | exact HB.out | apply below_alloc | apply pw_below_drewN | apply below_drew1) | exact HB.out))) : w.heap.size ≤ gb127)); have n3_ := Aside0.mk ((by rw [hg]; exact (below_size (by repeat (first | (with_reducible first | exact HB.out | apply below_alloc | apply pw_below_drewN | apply below_drew1) | exact HB.out))) : w.heap.size ≤ gb127)); clear HB; have HB := n0_; have BK127 := n1_; have GW127 := n2_; have GE127 := n3_; clear n0_ n1_ n2_ n3_; clear hb hbox hg; have hcz5_0 : w4.cell? ⟨gb127, 0, none⟩ = some (.int .u32 0) := (blk_cell BK127.out 0).trans rfl; have hcz5_1 : w4.cell? ⟨gb127, 1, none⟩ = some (.int .u32 0) := (blk_cell BK127.out 1).trans rfl; have hcz5_2 : w4.cell? ⟨gb127, 2, none⟩ = some (.string (⟨#[]⟩ : ByteArray)) := (blk_cell BK127.out 2).trans rfl; have hcz5_3 : w4.cell? ⟨gb127, 3, none⟩ = some (.bool false) := (blk_cell BK127.out 3).trans rfl; have hcz5_4 : w4.cell? ⟨gb127, 4, none⟩ = some (.int .u32 0) := (blk_cell BK127.out 4).trans rfl; have hfz5_0 := blk_frozen BK127.out 0; have hfz5_1 := blk_frozen BK127.out 1; have hfz5_2 := blk_frozen BK127.out 2; have hfz5_3 := blk_frozen BK127.out 3; have hfz5_4 := blk_frozen BK127.out 4))
    refine bodyPost_ret (results_ctt rfl _ _ gb127 34 #[.int .u32 0, .int .u32 0, .string (⟨#[]⟩ : ByteArray), .bool false, .int .u32 0] (0, 0) _ rfl (by (with_reducible repeat (first | refine blk_drewN ?_ _ | refine blk_drew ?_ | refine blk_alloc ?_ _)); refine blk_put (cs := #[.int .u32 0, .int .u32 0, .string (⟨#[]⟩ : ByteArray), .bool false, .int .u32 0]) ?_ 4 _ rfl; (with_reducible repeat (first | refine blk_drewN ?_ _ | refine blk_drew ?_ | refine blk_alloc ?_ _)); refine blk_put (cs := #[.int .u32 0, .int .u32 0, .string (⟨#[]⟩ : ByteArray), .bool false, .int .u32 0]) ?_ 3 _ rfl; (with_reducible repeat (first | refine blk_drewN ?_ _ | refine blk_drew ?_ | refine blk_alloc ?_ _)); refine blk_put (cs := #[.int .u32 0, .int .u32 0, .string (⟨#[]⟩ : ByteArray), .bool false, .int .u32 0]) ?_ 2 _ rfl; (with_reducible repeat (first | refine blk_drewN ?_ _ | refine blk_drew ?_ | refine blk_alloc ?_ _)); refine blk_put (cs := #[.int .u32 0, .int .u32 0, .string (⟨#[]⟩ : ByteArray), .bool false, .int .u32 0]) ?_ 1 _ rfl; (with_reducible repeat (first | refine blk_drewN ?_ _ | refine blk_drew ?_ | refine blk_alloc ?_ _)); refine blk_put (cs := #[.int .u32 0, .int .u32 0, .string (⟨#[]⟩ : ByteArray), .bool false, .int .u32 0]) ?_ 0 _ rfl; (with_reducible repeat (first | refine blk_drewN ?_ _ | refine blk_drew ?_ | refine blk_alloc ?_ _)); exact BK127.out) Tryd.underlying34 rfl (by kernel_rfl)) rfl ?_
    exact ⟨by first | rfl | (simp [errW_none, errW_some] <;> rfl) | (simp [*, errW_none, errW_some] <;> rfl), by repeat (first | (with_reducible first | exact HB.out | apply below_alloc | apply pw_below_drewN | apply below_drew1 | refine below_set ?_ GE127.out) | exact HB.out)⟩
  · rw [if_neg c3] at H
    have c3b0 : ((l1.length : Int) == 0) = false := beq_eq_false_iff_ne.mpr c3
    have c3b1 : ((l1.length : Int) != 0) = true := bne_iff_ne.mpr c3
    have c3b2 : ¬ (l1 = []) := fun h_ => c3 (by rw [h_]; rfl)
    obtain ⟨ji6, hji6⟩ : ∃ j_ : Int, (wrap64 ((l1.length : Int) - 1)) = j_ := ⟨_, rfl⟩
    replace H : (if 0 ≤ (ji6) then (if (ji6) ≤ (l1.length : Int) then ((tree_walk.f k l0 (l1.take ((ji6) : Int).toNat)).bind fun bt129 => (if bt129.2.2.2.2.2 = 0 then (if bt129.2.2.2.1 = true then (if (ji6) < (l1.length : Int) then (some (bt129.1, bt129.2.1, bt129.2.2.1, bt129.2.2.2.1, bt129.2.2.2.2.1, rdOf ByteArray.empty l1 (ji6), bt129.2.2.2.2.2)) else (none)) else (if (ji6) < (l1.length : Int) then (some (bt129.1, bt129.2.1, bt129.2.2.1, bt129.2.2.2.1, bt129.2.2.2.2.1, rdOf ByteArray.empty l1 (ji6), 10)) else (none))) else (if (ji6) < (l1.length : Int) then (some (bt129.1, bt129.2.1, bt129.2.2.1, bt129.2.2.2.1, bt129.2.2.2.2.1, rdOf ByteArray.empty l1 (ji6), bt129.2.2.2.2.2)) else (none)))) else (none)) else (none)) = some (r1, r2, r3, r4, r5, r6, r7) := by first | (rw [hji6] at H; exact H) | (simp only [hji6] at H ⊢; exact H)
    have hji6w : (IntKind.i64.wrap ((l1.length : Int) - 1)) = ji6 := (i64_w _).trans hji6
    by_cases c7 : 0 ≤ (ji6)
    · rw [if_pos c7] at H
      have c7b0 := eq_true c7
      have c7b1 : decide (0 ≤ (ji6)) = true := decide_eq_true c7
      clear c7
      by_cases c8 : (ji6) ≤ (l1.length : Int)
      · rw [if_pos c8] at H
        have c8b0 := eq_true c8
        have c8b1 : decide ((ji6) ≤ (l1.length : Int)) = true := decide_eq_true c8
        clear c8
        replace H := Option.bind_eq_some_iff.mp H
        obtain ⟨⟨t129, t130, t131, t132, t133, t134⟩, A90, H⟩ := H
        replace H : (if t134 = 0 then (if t132 = true then (if (ji6) < (l1.length : Int) then (some (t129, t130, t131, t132, t133, rdOf ByteArray.empty l1 (ji6), t134)) else (none)) else (if (ji6) < (l1.length : Int) then (some (t129, t130, t131, t132, t133, rdOf ByteArray.empty l1 (ji6), 10)) else (none))) else (if (ji6) < (l1.length : Int) then (some (t129, t130, t131, t132, t133, rdOf ByteArray.empty l1 (ji6), t134)) else (none))) = some (r1, r2, r3, r4, r5, r6, r7) := H
        have A9 := Aside0.mk A90
        clear A90
        by_cases c10 : t134 = 0
        · rw [if_pos c10] at H
          have c10b0 : (t134 == 0) = true := beq_iff_eq.mpr c10
          have c10b1 : (t134 != 0) = false := bne_eq_false_iff_eq.mpr c10
          clear c10
          by_cases c11 : t132 = true
          · subst c11
            have H1 : (if (ji6) < (l1.length : Int) then (some (t129, t130, t131, true, t133, rdOf ByteArray.empty l1 (ji6), t134)) else (none)) = some (r1, r2, r3, r4, r5, r6, r7) := by rw [if_pos rfl] at H; exact H
            clear H
            have H := H1
            clear H1
            by_cases c12 : (ji6) < (l1.length : Int)
            · rw [if_pos c12] at H
              have c12b0 : decide ((ji6) < (l1.length : Int)) = true := decide_eq_true c12
              clear c12
              simp only [Option.some.injEq, Prod.mk.injEq] at H
              obtain ⟨rfl, rfl, rfl, rfl, rfl, rfl, rfl⟩ := H
              go_enter Tryd.func36, Tryd.ntmps36
              try go_wp2_with (first | ((with_reducible refine gate_dst (N := 4) rfl ?_); refine box_event ?hg (N := 4) ?hd (cs := #[.int .u32 0, .int .u32 0, .string (⟨#[]⟩ : ByteArray), .bool false, .int .u32 0]) (t := 34) ?hr ?_; (case hd => rfl); (case hg => rfl); (case hr => first | (go_simp; done) | (go_simp; rfl)); intro gb127 hg w13 hbox hb; have n0_ := Aside0.mk (below_step (by repeat (first | (with_reducible first | exact HB.out | apply below_alloc | apply pw_below_drewN | apply below_drew1) | exact HB.out)) hb); have n1_ := Aside0.mk (hbox); have n2_ := Aside0.mk ((by rw [hg]; exact (below_size (by repeat (first | (with_reducible first | exact HB.out | apply below_alloc | apply pw_below_drewN | apply below_drew1) | exact HB.out))) : w.heap.size ≤ gb127)); have n3_ := Aside0.mk ((by rw [hg]; exact (below_size (by repeat (first | (with_reducible first | exact HB.out | apply below_alloc | apply pw_below_drewN | apply below_drew1) | exact HB.out))) : w.heap.size ≤ gb127)); clear HB; have HB := n0_; have BK127 := n1_; have GW127 := n2_; have GE127 := n3_; clear n0_ n1_ n2_ n3_; clear hb hbox hg; obtain ⟨i014, hi014, _, hsz14, _⟩ := info_parts info9; obtain ⟨hcut14, hA14, hC14⟩ := print_take_of (P := Tryd.prog) Value.string (⟨#[]⟩ : ByteArray) 54 9 .i64 Tryd.underlying54 hi014 hsz14 A1 c1 l1 (ji6) (of_decide_eq_true (by first | (with_reducible assumption) | assumption)) (of_decide_eq_true (by first | (with_reducible assumption) | assumption)) HC1.out; have HR128 := Aside0.mk (Kd.C_of_reads (h1 := fun _ => rfl) (hA14 _ (Kd.reads_of_C HR1.out))); have HC128 := Aside0.mk hC14; clear hA14 hC14 hi014 hsz14) | ((with_reducible refine gate_callee (f := 35) rfl ?_); refine goesL_ (some 22) rfl rfl Tryd.func35 (by kernel_rfl) rfl #[.slice A0 l0.length c0, .slice A1 (l1.take ((ji6) : Int).toNat).length c1] rfl (by (try simp only [List.map_toArray, List.map_cons, List.map_nil]); first | done | (rw [show (l1.take ((ji6) : Int).toNat).length = (ji6).toNat from (by rw [List.length_take]; have h_ : ((ji6) : Int) ≤ (l1.length : Int) := of_decide_eq_true (by first | (with_reducible assumption) | assumption); omega)] <;> rfl) | (simp only [hji6]; rfl) | rfl | (simp only [List.length_drop, List.length_take]; rfl)) ?_; (with_reducible refine (tree_walk.calls k _ _ l0 _ _ (l1.take ((ji6) : Int).toNat) t129 t130 t131 true t133 t134 _ ?side1 ?side2 ?side3 ?side4 A9.out).mono ?_); (case side1 => repeat (first | exact (Kd.C_below HR0.out HB.out) | (with_reducible refine Kd.C_alloc ?_ _) | (with_reducible refine Kd.C_drewN ?_ _) | (with_reducible refine Kd.C_drew ?_))); (case side2 => exact HC0.out); (case side3 => repeat (first | exact (Kd.C_below HR128.out HB.out) | (with_reducible refine Kd.C_alloc ?_ _) | (with_reducible refine Kd.C_drewN ?_ _) | (with_reducible refine Kd.C_drew ?_))); (case side4 => exact HC128.out); rintro e w15 ⟨rfl, hb⟩; refine ⟨_, rfl, ?_⟩; have n0_ := Aside0.mk (blk_below (g := gb127) (o := .cells #[.int .u32 0, .int .u32 0, .string (⟨#[]⟩ : ByteArray), .bool false, .int .u32 0] 34 (0, 0)) (by (with_reducible repeat (first | refine blk_drewN ?_ _ | refine blk_drew ?_ | refine blk_alloc ?_ _)); exact BK127.out) hb); have n1_ := Aside0.mk (below_step (by repeat (first | (with_reducible first | exact HB.out | apply below_alloc | apply pw_below_drewN | apply below_drew1 | refine below_set ?_ GE127.out) | exact HB.out)) hb); clear BK127; clear HB; have BK127 := n0_; have HB := n1_; clear n0_ n1_; (try clear hb); (try clear hb2); (try clear hk); (try clear hi)) | ((with_reducible refine gate_dst (N := 8) rfl ?_); refine box_event ?hg (N := 8) ?hd (cs := #[.int .u32 0, .int .u32 0, .string (⟨#[]⟩ : ByteArray), .bool false, .int .u32 0]) (t := 34) ?hr ?_; (case hd => rfl); (case hg => rfl); (case hr => first | (go_simp; done) | (go_simp; rfl)); intro gb135 hg w16 hbox hb; have n0_ := Aside0.mk (blk_below (g := gb127) (o := .cells #[.int .u32 0, .int .u32 0, .string (⟨#[]⟩ : ByteArray), .bool false, .int .u32 0] 34 (0, 0)) (by (with_reducible repeat (first | refine blk_drewN ?_ _ | refine blk_drew ?_ | refine blk_alloc ?_ _)); exact BK127.out) hb); have n1_ := Aside0.mk (below_step (by repeat (first | (with_reducible first | exact HB.out | apply below_alloc | apply pw_below_drewN | apply below_drew1 | refine below_set ?_ GE127.out) | exact HB.out)) hb); have n2_ := Aside0.mk (hbox); have n3_ := Aside0.mk ((by rw [hg]; exact (below_size (by repeat (first | (with_reducible first | exact HB.out | apply below_alloc | apply pw_below_drewN | apply below_drew1 | refine below_set ?_ GE127.out) | exact HB.out))) : w.heap.size ≤ gb135)); have n4_ := Aside0.mk ((by rw [hg]; exact (below_size (by repeat (first | (with_reducible first | exact HB.out | apply below_alloc | apply pw_below_drewN | apply below_drew1 | refine below_set ?_ GE127.out) | exact HB.out))) : w.heap.size ≤ gb135)); have n5_ := Aside0.mk ((by rw [hg]; exact Nat.ne_of_lt (blk_lt (g := gb127) (o := .cells #[.int .u32 0, .int .u32 0, .string (⟨#[]⟩ : ByteArray), .bool false, .int .u32 0] 34 (0, 0)) (by (with_reducible repeat (first | refine blk_drewN ?_ _ | refine blk_drew ?_ | refine blk_alloc ?_ _)); exact BK127.out)) : gb127 ≠ gb135)); have n6_ := Aside0.mk ((by rw [hg]; exact Nat.ne_of_gt (blk_lt (g := gb127) (o := .cells #[.int .u32 0, .int .u32 0, .string (⟨#[]⟩ : ByteArray), .bool false, .int .u32 0] 34 (0, 0)) (by (with_reducible repeat (first | refine blk_drewN ?_ _ | refine blk_drew ?_ | refine blk_alloc ?_ _)); exact BK127.out)) : gb135 ≠ gb127)); clear BK127; clear HB; have BK127 := n0_; have HB := n1_; have BK135 := n2_; have GW135 := n3_; have GE135 := n4_; have NB127_135 := n5_; have NB135_127 := n6_; clear n0_ n1_ n2_ n3_ n4_ n5_ n6_; clear hb hbox hg; have hnb17 := NB135_127.out; have hnc17 := NB127_135.out; have hcz18_0 : w16.cell? ⟨gb135, 0, none⟩ = some (.int .u32 0) := (blk_cell BK135.out 0).trans rfl; have hcz18_1 : w16.cell? ⟨gb135, 1, none⟩ = some (.int .u32 0) := (blk_cell BK135.out 1).trans rfl; have hcz18_2 : w16.cell? ⟨gb135, 2, none⟩ = some (.string (⟨#[]⟩ : ByteArray)) := (blk_cell BK135.out 2).trans rfl; have hcz18_3 : w16.cell? ⟨gb135, 3, none⟩ = some (.bool false) := (blk_cell BK135.out 3).trans rfl; have hcz18_4 : w16.cell? ⟨gb135, 4, none⟩ = some (.int .u32 0) := (blk_cell BK135.out 4).trans rfl; have hfz18_0 := blk_frozen BK135.out 0; have hfz18_1 := blk_frozen BK135.out 1; have hfz18_2 := blk_frozen BK135.out 2; have hfz18_3 := blk_frozen BK135.out 3; have hfz18_4 := blk_frozen BK135.out 4))
              have n0_ : Aside0 ((((((w16.setCell ⟨gb135, 0, none⟩ (.int .u32 t129)).setCell ⟨gb135, 1, none⟩ (.int .u32 t130)).setCell ⟨gb135, 2, none⟩ (.string t131)).setCell ⟨gb135, 3, none⟩ (.bool true)).setCell ⟨gb135, 4, none⟩ (.int .u32 t133)).heap[gb127]? = some (.cells #[.int .u32 0, .int .u32 0, .string (⟨#[]⟩ : ByteArray), .bool false, .int .u32 0] 34 (0, 0))) := ⟨by (with_reducible repeat (first | refine blk_drewN ?_ _ | refine blk_drew ?_ | refine blk_alloc ?_ _)); refine blk_far ?_ NB127_135.out _; (with_reducible repeat (first | refine blk_drewN ?_ _ | refine blk_drew ?_ | refine blk_alloc ?_ _)); refine blk_far ?_ NB127_135.out _; (with_reducible repeat (first | refine blk_drewN ?_ _ | refine blk_drew ?_ | refine blk_alloc ?_ _)); refine blk_far ?_ NB127_135.out _; (with_reducible repeat (first | refine blk_drewN ?_ _ | refine blk_drew ?_ | refine blk_alloc ?_ _)); refine blk_far ?_ NB127_135.out _; (with_reducible repeat (first | refine blk_drewN ?_ _ | refine blk_drew ?_ | refine blk_alloc ?_ _)); refine blk_far ?_ NB127_135.out _; (with_reducible repeat (first | refine blk_drewN ?_ _ | refine blk_drew ?_ | refine blk_alloc ?_ _)); exact BK127.out⟩
              have n1_ : Aside0 ((((((w16.setCell ⟨gb135, 0, none⟩ (.int .u32 t129)).setCell ⟨gb135, 1, none⟩ (.int .u32 t130)).setCell ⟨gb135, 2, none⟩ (.string t131)).setCell ⟨gb135, 3, none⟩ (.bool true)).setCell ⟨gb135, 4, none⟩ (.int .u32 t133)).heap[gb135]? = some (.cells #[.int .u32 t129, .int .u32 t130, .string t131, .bool true, .int .u32 t133] 34 (0, 0))) := ⟨by (with_reducible repeat (first | refine blk_drewN ?_ _ | refine blk_drew ?_ | refine blk_alloc ?_ _)); refine blk_put (cs := #[.int .u32 t129, .int .u32 t130, .string t131, .bool true, .int .u32 0]) ?_ 4 _ rfl; (with_reducible repeat (first | refine blk_drewN ?_ _ | refine blk_drew ?_ | refine blk_alloc ?_ _)); refine blk_put (cs := #[.int .u32 t129, .int .u32 t130, .string t131, .bool false, .int .u32 0]) ?_ 3 _ rfl; (with_reducible repeat (first | refine blk_drewN ?_ _ | refine blk_drew ?_ | refine blk_alloc ?_ _)); refine blk_put (cs := #[.int .u32 t129, .int .u32 t130, .string (⟨#[]⟩ : ByteArray), .bool false, .int .u32 0]) ?_ 2 _ rfl; (with_reducible repeat (first | refine blk_drewN ?_ _ | refine blk_drew ?_ | refine blk_alloc ?_ _)); refine blk_put (cs := #[.int .u32 t129, .int .u32 0, .string (⟨#[]⟩ : ByteArray), .bool false, .int .u32 0]) ?_ 1 _ rfl; (with_reducible repeat (first | refine blk_drewN ?_ _ | refine blk_drew ?_ | refine blk_alloc ?_ _)); refine blk_put (cs := #[.int .u32 0, .int .u32 0, .string (⟨#[]⟩ : ByteArray), .bool false, .int .u32 0]) ?_ 0 _ rfl; (with_reducible repeat (first | refine blk_drewN ?_ _ | refine blk_drew ?_ | refine blk_alloc ?_ _)); exact BK135.out⟩
              have n2_ : Aside0 (Below w.heap.size w (((((w16.setCell ⟨gb135, 0, none⟩ (.int .u32 t129)).setCell ⟨gb135, 1, none⟩ (.int .u32 t130)).setCell ⟨gb135, 2, none⟩ (.string t131)).setCell ⟨gb135, 3, none⟩ (.bool true)).setCell ⟨gb135, 4, none⟩ (.int .u32 t133))) := ⟨by repeat (first | (with_reducible first | exact HB.out | apply below_alloc | apply pw_below_drewN | apply below_drew1 | refine below_set ?_ GE127.out | refine below_set ?_ GE135.out) | exact HB.out)⟩
              (try clear BK127)
              (try clear BK135)
              (try clear HB)
              generalize (((((w16.setCell ⟨gb135, 0, none⟩ (.int .u32 t129)).setCell ⟨gb135, 1, none⟩ (.int .u32 t130)).setCell ⟨gb135, 2, none⟩ (.string t131)).setCell ⟨gb135, 3, none⟩ (.bool true)).setCell ⟨gb135, 4, none⟩ (.int .u32 t133)) = w19 at n0_ n1_ n2_ ⊢
              have BK127 := n0_
              have BK135 := n1_
              have HB := n2_
              clear n0_ n1_ n2_
              have n0_ := Aside0.mk (blk_drew BK127.out)
              have n1_ := Aside0.mk (blk_drew BK135.out)
              have n2_ := Aside0.mk (below_drew1 HB.out)
              clear BK127
              clear BK135
              clear HB
              have BK127 := n0_
              have BK135 := n1_
              have HB := n2_
              clear n0_ n1_ n2_
              have p136 : 0 ≤ ((ji6) : Int) := of_decide_eq_true (by first | (with_reducible assumption) | assumption)
              have q136 : (ji6) < (l1.length : Int) := of_decide_eq_true (by first | (with_reducible assumption) | assumption)
              obtain ⟨ad136, e136, hx136_0⟩ := Kd.at_string HR1.out (ji6) p136 q136
              have hw136_0 := hx136_0
              cases e136
              replace hx136_0 := (HB.out.cell (World.block_lt_of_cell? w _ hx136_0)).trans hx136_0
              replace p136 := eq_true p136
              replace q136 := eq_true q136
              refine start_ (n := 9) (S := fun w' => w'.cell? ⟨gb135, 0, none⟩ = some (.int .u32 t129) ∧ w'.cell? ⟨gb135, 1, none⟩ = some (.int .u32 t130) ∧ w'.cell? ⟨gb135, 2, none⟩ = some (.string t131) ∧ w'.cell? ⟨gb135, 3, none⟩ = some (.bool true) ∧ w'.cell? ⟨gb135, 4, none⟩ = some (.int .u32 t133) ∧ w'.cell? (ad136.add ((ji6)).toNat) = some (.string (rdOf ByteArray.empty l1 (ji6)))) (ds := []) #[false, false, false, false, false, false, false, false, false] (by kernel_rfl) rfl rfl ⟨(blk_cell BK135.out 0).trans rfl, (blk_cell BK135.out 1).trans rfl, (blk_cell BK135.out 2).trans rfl, (blk_cell BK135.out 3).trans rfl, (blk_cell BK135.out 4).trans rfl, ((HB.out.cell (World.block_lt_of_cell? w _ hw136_0)).trans hw136_0)⟩ (fun hHeld => ?_); refine with_tabW tree_above.tab7 tree_above.bits7 (fun HT_ HW_ => ?_)
              generalize w19.drew = w20 at BK127 BK135 HB hx136_0 hHeld ⊢
              refine pure_ (i := 1) (N := some 33) (v := ?_) (a' := ?_) #[false, true, false, false, false, false, false, false, false] rfl rfl (any_of HT_.out (by kernel_rfl)) (fun _ _ _ h => h) (Or.inl ⟨by rfl, ?_⟩) ?_ ?_
              rotate_left
              · intro w'
                go_simp
                with_reducible rfl
              rotate_left
              · simp only [Act.put, List.setIfInBounds_toArray, List.set_cons_zero, List.set_cons_succ, i64_w, i32_w]
                rfl
              refine pure_ (i := 2) (N := some 34) (v := ?_) (a' := ?_) #[false, true, true, false, false, false, false, false, false] rfl rfl (any_of HT_.out (by kernel_rfl)) (fun _ _ _ h => h) (Or.inl ⟨by rfl, ?_⟩) ?_ ?_
              rotate_left
              · intro w'
                go_simp
                with_reducible rfl
              rotate_left
              · simp only [Act.put, List.setIfInBounds_toArray, List.set_cons_zero, List.set_cons_succ, i64_w, i32_w]
                rfl
              refine pure_ (i := 3) (N := some 35) (v := ?_) (a' := ?_) #[false, true, true, true, false, false, false, false, false] rfl rfl (any_of HT_.out (by kernel_rfl)) (fun _ _ _ h => h) (Or.inl ⟨by rfl, ?_⟩) ?_ ?_
              rotate_left
              · intro w'
                go_simp
                with_reducible rfl
              rotate_left
              · simp only [Act.put, List.setIfInBounds_toArray, List.set_cons_zero, List.set_cons_succ, i64_w, i32_w]
                rfl
              refine pure_ (i := 5) (N := some 37) (v := ?_) (a' := ?_) #[false, true, true, true, false, true, false, false, false] rfl rfl (any_of HT_.out (by kernel_rfl)) (fun _ _ _ h => h) (Or.inl ⟨by rfl, ?_⟩) ?_ ?_
              rotate_left
              · intro w'
                go_simp
                with_reducible rfl
              rotate_left
              · simp only [Act.put, List.setIfInBounds_toArray, List.set_cons_zero, List.set_cons_succ, i64_w, i32_w]
                rfl
              refine take_ (i := 0) (N := some 32) (v := ?_) (a' := ?_) #[true, true, true, true, false, true, false, false, false] rfl rfl (take_ofW HT_.out HW_.out (by kernel_rfl)) (fun _ _ _ h => h) (Or.inl ⟨by rfl, ?_⟩) hHeld ?_ ?_
              rotate_left
              · rintro w' ⟨s0, s1, s2, s3, s4, s5⟩
                go_simp
                with_reducible rfl
              rotate_left
              · simp only [Act.put, List.setIfInBounds_toArray, List.set_cons_zero, List.set_cons_succ, i64_w, i32_w]
                rfl
              refine take_ (i := 4) (N := some 36) (v := ?_) (a' := ?_) #[true, true, true, true, true, true, false, false, false] rfl rfl (take_ofW HT_.out HW_.out (by kernel_rfl)) (fun _ _ _ h => h) (Or.inl ⟨by rfl, ?_⟩) hHeld ?_ ?_
              rotate_left
              · rintro w' ⟨s0, s1, s2, s3, s4, s5⟩
                go_simp
                with_reducible rfl
              rotate_left
              · simp only [Act.put, List.setIfInBounds_toArray, List.set_cons_zero, List.set_cons_succ, i64_w, i32_w]
                rfl
              refine one_ (i := 6) (N := none) #[true, true, true, true, true, true, true, false, false] rfl rfl (one_of HT_.out (by kernel_rfl)) (by decide) (fun K hK => ?_)
              have hs21 : w20.cell? ⟨gb127, 0, none⟩ = some (.int .u32 0) := (blk_cell BK127.out 0).trans rfl
              have hfs21 := blk_frozen BK127.out 0
              have hns21_1 := NB135_127.out
              have hms21_1 := NB127_135.out
              have hs22 : w20.cell? ⟨gb127, 1, none⟩ = some (.int .u32 0) := (blk_cell BK127.out 1).trans rfl
              have hfs22 := blk_frozen BK127.out 1
              have hns22_1 := NB135_127.out
              have hms22_1 := NB127_135.out
              have hs23 : w20.cell? ⟨gb127, 2, none⟩ = some (.string (⟨#[]⟩ : ByteArray)) := (blk_cell BK127.out 2).trans rfl
              have hfs23 := blk_frozen BK127.out 2
              have hns23_1 := NB135_127.out
              have hms23_1 := NB127_135.out
              have hs24 : w20.cell? ⟨gb127, 3, none⟩ = some (.bool false) := (blk_cell BK127.out 3).trans rfl
              have hfs24 := blk_frozen BK127.out 3
              have hns24_1 := NB135_127.out
              have hms24_1 := NB127_135.out
              have hs25 : w20.cell? ⟨gb127, 4, none⟩ = some (.int .u32 0) := (blk_cell BK127.out 4).trans rfl
              have hfs25 := blk_frozen BK127.out 4
              have hns25_1 := NB135_127.out
              have hms25_1 := NB127_135.out
              refine skip_ (w1 := ?_) (by rfl) rfl ?_ ?_
              rotate_left
              · go_simp
                rfl
              refine hK.out _ _ ⟨((cell_far (p := ⟨gb127, _, none⟩) NB135_127.out _).trans (((cell_far (p := ⟨gb127, _, none⟩) NB135_127.out _).trans (((cell_far (p := ⟨gb127, _, none⟩) NB135_127.out _).trans (((cell_far (p := ⟨gb127, _, none⟩) NB135_127.out _).trans (((cell_far (p := ⟨gb127, _, none⟩) NB135_127.out _).trans (hHeld.1)))))))))), ((cell_far (p := ⟨gb127, _, none⟩) NB135_127.out _).trans (((cell_far (p := ⟨gb127, _, none⟩) NB135_127.out _).trans (((cell_far (p := ⟨gb127, _, none⟩) NB135_127.out _).trans (((cell_far (p := ⟨gb127, _, none⟩) NB135_127.out _).trans (((cell_far (p := ⟨gb127, _, none⟩) NB135_127.out _).trans (hHeld.2.1)))))))))), ((cell_far (p := ⟨gb127, _, none⟩) NB135_127.out _).trans (((cell_far (p := ⟨gb127, _, none⟩) NB135_127.out _).trans (((cell_far (p := ⟨gb127, _, none⟩) NB135_127.out _).trans (((cell_far (p := ⟨gb127, _, none⟩) NB135_127.out _).trans (((cell_far (p := ⟨gb127, _, none⟩) NB135_127.out _).trans (hHeld.2.2.1)))))))))), ((cell_far (p := ⟨gb127, _, none⟩) NB135_127.out _).trans (((cell_far (p := ⟨gb127, _, none⟩) NB135_127.out _).trans (((cell_far (p := ⟨gb127, _, none⟩) NB135_127.out _).trans (((cell_far (p := ⟨gb127, _, none⟩) NB135_127.out _).trans (((cell_far (p := ⟨gb127, _, none⟩) NB135_127.out _).trans (hHeld.2.2.2.1)))))))))), ((cell_far (p := ⟨gb127, _, none⟩) NB135_127.out _).trans (((cell_far (p := ⟨gb127, _, none⟩) NB135_127.out _).trans (((cell_far (p := ⟨gb127, _, none⟩) NB135_127.out _).trans (((cell_far (p := ⟨gb127, _, none⟩) NB135_127.out _).trans (((cell_far (p := ⟨gb127, _, none⟩) NB135_127.out _).trans (hHeld.2.2.2.2.1)))))))))), ((cell_far (p := ⟨gb127, _, none⟩) (by first | exact Nat.ne_of_lt (Nat.lt_of_lt_of_le (by have := World.block_lt_of_cell? _ _ hw136_0; first | rwa [add_block] at this | exact this) GW127.out) | (rw [add_block]; exact Nat.ne_of_lt (Nat.lt_of_lt_of_le (by have := World.block_lt_of_cell? _ _ hw136_0; first | rwa [add_block] at this | exact this) GW127.out)) | (show (Addr.add _ _).block ≠ _; rw [add_block]; exact Nat.ne_of_lt (Nat.lt_of_lt_of_le (by have := World.block_lt_of_cell? _ _ hw136_0; first | rwa [add_block] at this | exact this) GW127.out)) | (dsimp only; exact Nat.ne_of_lt (Nat.lt_of_lt_of_le (by have := World.block_lt_of_cell? _ _ hw136_0; first | rwa [add_block] at this | exact this) GW127.out))) _).trans (((cell_far (p := ⟨gb127, _, none⟩) (by first | exact Nat.ne_of_lt (Nat.lt_of_lt_of_le (by have := World.block_lt_of_cell? _ _ hw136_0; first | rwa [add_block] at this | exact this) GW127.out) | (rw [add_block]; exact Nat.ne_of_lt (Nat.lt_of_lt_of_le (by have := World.block_lt_of_cell? _ _ hw136_0; first | rwa [add_block] at this | exact this) GW127.out)) | (show (Addr.add _ _).block ≠ _; rw [add_block]; exact Nat.ne_of_lt (Nat.lt_of_lt_of_le (by have := World.block_lt_of_cell? _ _ hw136_0; first | rwa [add_block] at this | exact this) GW127.out)) | (dsimp only; exact Nat.ne_of_lt (Nat.lt_of_lt_of_le (by have := World.block_lt_of_cell? _ _ hw136_0; first | rwa [add_block] at this | exact this) GW127.out))) _).trans (((cell_far (p := ⟨gb127, _, none⟩) (by first | exact Nat.ne_of_lt (Nat.lt_of_lt_of_le (by have := World.block_lt_of_cell? _ _ hw136_0; first | rwa [add_block] at this | exact this) GW127.out) | (rw [add_block]; exact Nat.ne_of_lt (Nat.lt_of_lt_of_le (by have := World.block_lt_of_cell? _ _ hw136_0; first | rwa [add_block] at this | exact this) GW127.out)) | (show (Addr.add _ _).block ≠ _; rw [add_block]; exact Nat.ne_of_lt (Nat.lt_of_lt_of_le (by have := World.block_lt_of_cell? _ _ hw136_0; first | rwa [add_block] at this | exact this) GW127.out)) | (dsimp only; exact Nat.ne_of_lt (Nat.lt_of_lt_of_le (by have := World.block_lt_of_cell? _ _ hw136_0; first | rwa [add_block] at this | exact this) GW127.out))) _).trans (((cell_far (p := ⟨gb127, _, none⟩) (by first | exact Nat.ne_of_lt (Nat.lt_of_lt_of_le (by have := World.block_lt_of_cell? _ _ hw136_0; first | rwa [add_block] at this | exact this) GW127.out) | (rw [add_block]; exact Nat.ne_of_lt (Nat.lt_of_lt_of_le (by have := World.block_lt_of_cell? _ _ hw136_0; first | rwa [add_block] at this | exact this) GW127.out)) | (show (Addr.add _ _).block ≠ _; rw [add_block]; exact Nat.ne_of_lt (Nat.lt_of_lt_of_le (by have := World.block_lt_of_cell? _ _ hw136_0; first | rwa [add_block] at this | exact this) GW127.out)) | (dsimp only; exact Nat.ne_of_lt (Nat.lt_of_lt_of_le (by have := World.block_lt_of_cell? _ _ hw136_0; first | rwa [add_block] at this | exact this) GW127.out))) _).trans (((cell_far (p := ⟨gb127, _, none⟩) (by first | exact Nat.ne_of_lt (Nat.lt_of_lt_of_le (by have := World.block_lt_of_cell? _ _ hw136_0; first | rwa [add_block] at this | exact this) GW127.out) | (rw [add_block]; exact Nat.ne_of_lt (Nat.lt_of_lt_of_le (by have := World.block_lt_of_cell? _ _ hw136_0; first | rwa [add_block] at this | exact this) GW127.out)) | (show (Addr.add _ _).block ≠ _; rw [add_block]; exact Nat.ne_of_lt (Nat.lt_of_lt_of_le (by have := World.block_lt_of_cell? _ _ hw136_0; first | rwa [add_block] at this | exact this) GW127.out)) | (dsimp only; exact Nat.ne_of_lt (Nat.lt_of_lt_of_le (by have := World.block_lt_of_cell? _ _ hw136_0; first | rwa [add_block] at this | exact this) GW127.out))) _).trans (hHeld.2.2.2.2.2))))))))))⟩ (fun hHeld => ?_)
              clear hK K
              refine pure_ (i := 7) (N := some 5) (v := ?_) (a' := ?_) #[true, true, true, true, true, true, true, true, false] rfl rfl (any_of HT_.out (by kernel_rfl)) (fun _ _ _ h => h) (Or.inl ⟨by rfl, ?_⟩) ?_ ?_
              rotate_left
              · intro w'
                go_simp
                with_reducible rfl
              rotate_left
              · simp only [Act.put, List.setIfInBounds_toArray, List.set_cons_zero, List.set_cons_succ, i64_w, i32_w]
                rfl
              refine pure_ (i := 8) (N := some 6) (v := ?_) (a' := ?_) #[true, true, true, true, true, true, true, true, true] rfl rfl (any_of HT_.out (by kernel_rfl)) (fun _ _ _ h => h) (Or.inl ⟨by rfl, ?_⟩) ?_ ?_
              rotate_left
              · intro w'
                go_simp
                with_reducible rfl
              rotate_left
              · simp only [Act.put, List.setIfInBounds_toArray, List.set_cons_zero, List.set_cons_succ, i64_w, i32_w]
                rfl
              refine done_ (done_of HT_.out (by kernel_rfl)) ?_
              try go_wp2
              refine bodyPost_ret (results_ctt rfl _ _ gb127 34 #[.int .u32 t129, .int .u32 t130, .string t131, .bool true, .int .u32 t133] (0, 0) _ rfl (by (with_reducible repeat (first | refine blk_drewN ?_ _ | refine blk_drew ?_ | refine blk_alloc ?_ _)); refine blk_put (cs := #[.int .u32 t129, .int .u32 t130, .string t131, .bool true, .int .u32 0]) ?_ 4 _ rfl; (with_reducible repeat (first | refine blk_drewN ?_ _ | refine blk_drew ?_ | refine blk_alloc ?_ _)); refine blk_put (cs := #[.int .u32 t129, .int .u32 t130, .string t131, .bool false, .int .u32 0]) ?_ 3 _ rfl; (with_reducible repeat (first | refine blk_drewN ?_ _ | refine blk_drew ?_ | refine blk_alloc ?_ _)); refine blk_put (cs := #[.int .u32 t129, .int .u32 t130, .string (⟨#[]⟩ : ByteArray), .bool false, .int .u32 0]) ?_ 2 _ rfl; (with_reducible repeat (first | refine blk_drewN ?_ _ | refine blk_drew ?_ | refine blk_alloc ?_ _)); refine blk_put (cs := #[.int .u32 t129, .int .u32 0, .string (⟨#[]⟩ : ByteArray), .bool false, .int .u32 0]) ?_ 1 _ rfl; (with_reducible repeat (first | refine blk_drewN ?_ _ | refine blk_drew ?_ | refine blk_alloc ?_ _)); refine blk_put (cs := #[.int .u32 0, .int .u32 0, .string (⟨#[]⟩ : ByteArray), .bool false, .int .u32 0]) ?_ 0 _ rfl; (with_reducible repeat (first | refine blk_drewN ?_ _ | refine blk_drew ?_ | refine blk_alloc ?_ _)); exact BK127.out) Tryd.underlying34 rfl (by kernel_rfl)) rfl ?_
              exact ⟨by first | rfl | (simp [errW_none, errW_some] <;> rfl) | (simp only [← hji6]; first | rfl | (simp [errW_none, errW_some] <;> rfl)) | (simp [*, errW_none, errW_some] <;> rfl), by repeat (first | (with_reducible first | exact HB.out | apply below_alloc | apply pw_below_drewN | apply below_drew1 | refine below_set ?_ GE127.out | refine below_set ?_ GE135.out) | exact HB.out)⟩
            · rw [if_neg c12] at H
              exact absurd H (by simp)
          · replace c11 := Bool.eq_false_iff.mpr c11
            subst c11
            have H1 : (if (ji6) < (l1.length : Int) then (some (t129, t130, t131, false, t133, rdOf ByteArray.empty l1 (ji6), 10)) else (none)) = some (r1, r2, r3, r4, r5, r6, r7) := by rw [if_neg (show ¬ (false = true) by decide)] at H; exact H
            clear H
            have H := H1
            clear H1
            by_cases c26 : (ji6) < (l1.length : Int)
            · rw [if_pos c26] at H
              have c26b0 : decide ((ji6) < (l1.length : Int)) = true := decide_eq_true c26
              clear c26
              simp only [Option.some.injEq, Prod.mk.injEq] at H
              obtain ⟨rfl, rfl, rfl, rfl, rfl, rfl, rfl⟩ := H
              go_enter Tryd.func36, Tryd.ntmps36
              try go_wp2_with (first | ((with_reducible refine gate_dst (N := 4) rfl ?_); refine box_event ?hg (N := 4) ?hd (cs := #[.int .u32 0, .int .u32 0, .string (⟨#[]⟩ : ByteArray), .bool false, .int .u32 0]) (t := 34) ?hr ?_; (case hd => rfl); (case hg => rfl); (case hr => first | (go_simp; done) | (go_simp; rfl)); intro gb127 hg w27 hbox hb; have n0_ := Aside0.mk (below_step (by repeat (first | (with_reducible first | exact HB.out | apply below_alloc | apply pw_below_drewN | apply below_drew1) | exact HB.out)) hb); have n1_ := Aside0.mk (hbox); have n2_ := Aside0.mk ((by rw [hg]; exact (below_size (by repeat (first | (with_reducible first | exact HB.out | apply below_alloc | apply pw_below_drewN | apply below_drew1) | exact HB.out))) : w.heap.size ≤ gb127)); have n3_ := Aside0.mk ((by rw [hg]; exact (below_size (by repeat (first | (with_reducible first | exact HB.out | apply below_alloc | apply pw_below_drewN | apply below_drew1) | exact HB.out))) : w.heap.size ≤ gb127)); clear HB; have HB := n0_; have BK127 := n1_; have GW127 := n2_; have GE127 := n3_; clear n0_ n1_ n2_ n3_; clear hb hbox hg; obtain ⟨i028, hi028, _, hsz28, _⟩ := info_parts info9; obtain ⟨hcut28, hA28, hC28⟩ := print_take_of (P := Tryd.prog) Value.string (⟨#[]⟩ : ByteArray) 54 9 .i64 Tryd.underlying54 hi028 hsz28 A1 c1 l1 (ji6) (of_decide_eq_true (by first | (with_reducible assumption) | assumption)) (of_decide_eq_true (by first | (with_reducible assumption) | assumption)) HC1.out; have HR128 := Aside0.mk (Kd.C_of_reads (h1 := fun _ => rfl) (hA28 _ (Kd.reads_of_C HR1.out))); have HC128 := Aside0.mk hC28; clear hA28 hC28 hi028 hsz28) | ((with_reducible refine gate_callee (f := 35) rfl ?_); refine goesL_ (some 22) rfl rfl Tryd.func35 (by kernel_rfl) rfl #[.slice A0 l0.length c0, .slice A1 (l1.take ((ji6) : Int).toNat).length c1] rfl (by (try simp only [List.map_toArray, List.map_cons, List.map_nil]); first | done | (rw [show (l1.take ((ji6) : Int).toNat).length = (ji6).toNat from (by rw [List.length_take]; have h_ : ((ji6) : Int) ≤ (l1.length : Int) := of_decide_eq_true (by first | (with_reducible assumption) | assumption); omega)] <;> rfl) | (simp only [hji6]; rfl) | rfl | (simp only [List.length_drop, List.length_take]; rfl)) ?_; (with_reducible refine (tree_walk.calls k _ _ l0 _ _ (l1.take ((ji6) : Int).toNat) t129 t130 t131 false t133 t134 _ ?side1 ?side2 ?side3 ?side4 A9.out).mono ?_); (case side1 => repeat (first | exact (Kd.C_below HR0.out HB.out) | (with_reducible refine Kd.C_alloc ?_ _) | (with_reducible refine Kd.C_drewN ?_ _) | (with_reducible refine Kd.C_drew ?_))); (case side2 => exact HC0.out); (case side3 => repeat (first | exact (Kd.C_below HR128.out HB.out) | (with_reducible refine Kd.C_alloc ?_ _) | (with_reducible refine Kd.C_drewN ?_ _) | (with_reducible refine Kd.C_drew ?_))); (case side4 => exact HC128.out); rintro e w29 ⟨rfl, hb⟩; refine ⟨_, rfl, ?_⟩; have n0_ := Aside0.mk (blk_below (g := gb127) (o := .cells #[.int .u32 0, .int .u32 0, .string (⟨#[]⟩ : ByteArray), .bool false, .int .u32 0] 34 (0, 0)) (by (with_reducible repeat (first | refine blk_drewN ?_ _ | refine blk_drew ?_ | refine blk_alloc ?_ _)); exact BK127.out) hb); have n1_ := Aside0.mk (below_step (by repeat (first | (with_reducible first | exact HB.out | apply below_alloc | apply pw_below_drewN | apply below_drew1 | refine below_set ?_ GE127.out) | exact HB.out)) hb); clear BK127; clear HB; have BK127 := n0_; have HB := n1_; clear n0_ n1_; (try clear hb); (try clear hb2); (try clear hk); (try clear hi)) | ((with_reducible refine gate_dst (N := 8) rfl ?_); refine box_event ?hg (N := 8) ?hd (cs := #[.int .u32 0, .int .u32 0, .string (⟨#[]⟩ : ByteArray), .bool false, .int .u32 0]) (t := 34) ?hr ?_; (case hd => rfl); (case hg => rfl); (case hr => first | (go_simp; done) | (go_simp; rfl)); intro gb135 hg w30 hbox hb; have n0_ := Aside0.mk (blk_below (g := gb127) (o := .cells #[.int .u32 0, .int .u32 0, .string (⟨#[]⟩ : ByteArray), .bool false, .int .u32 0] 34 (0, 0)) (by (with_reducible repeat (first | refine blk_drewN ?_ _ | refine blk_drew ?_ | refine blk_alloc ?_ _)); exact BK127.out) hb); have n1_ := Aside0.mk (below_step (by repeat (first | (with_reducible first | exact HB.out | apply below_alloc | apply pw_below_drewN | apply below_drew1 | refine below_set ?_ GE127.out) | exact HB.out)) hb); have n2_ := Aside0.mk (hbox); have n3_ := Aside0.mk ((by rw [hg]; exact (below_size (by repeat (first | (with_reducible first | exact HB.out | apply below_alloc | apply pw_below_drewN | apply below_drew1 | refine below_set ?_ GE127.out) | exact HB.out))) : w.heap.size ≤ gb135)); have n4_ := Aside0.mk ((by rw [hg]; exact (below_size (by repeat (first | (with_reducible first | exact HB.out | apply below_alloc | apply pw_below_drewN | apply below_drew1 | refine below_set ?_ GE127.out) | exact HB.out))) : w.heap.size ≤ gb135)); have n5_ := Aside0.mk ((by rw [hg]; exact Nat.ne_of_lt (blk_lt (g := gb127) (o := .cells #[.int .u32 0, .int .u32 0, .string (⟨#[]⟩ : ByteArray), .bool false, .int .u32 0] 34 (0, 0)) (by (with_reducible repeat (first | refine blk_drewN ?_ _ | refine blk_drew ?_ | refine blk_alloc ?_ _)); exact BK127.out)) : gb127 ≠ gb135)); have n6_ := Aside0.mk ((by rw [hg]; exact Nat.ne_of_gt (blk_lt (g := gb127) (o := .cells #[.int .u32 0, .int .u32 0, .string (⟨#[]⟩ : ByteArray), .bool false, .int .u32 0] 34 (0, 0)) (by (with_reducible repeat (first | refine blk_drewN ?_ _ | refine blk_drew ?_ | refine blk_alloc ?_ _)); exact BK127.out)) : gb135 ≠ gb127)); clear BK127; clear HB; have BK127 := n0_; have HB := n1_; have BK135 := n2_; have GW135 := n3_; have GE135 := n4_; have NB127_135 := n5_; have NB135_127 := n6_; clear n0_ n1_ n2_ n3_ n4_ n5_ n6_; clear hb hbox hg; have hnb31 := NB135_127.out; have hnc31 := NB127_135.out; have hcz32_0 : w30.cell? ⟨gb135, 0, none⟩ = some (.int .u32 0) := (blk_cell BK135.out 0).trans rfl; have hcz32_1 : w30.cell? ⟨gb135, 1, none⟩ = some (.int .u32 0) := (blk_cell BK135.out 1).trans rfl; have hcz32_2 : w30.cell? ⟨gb135, 2, none⟩ = some (.string (⟨#[]⟩ : ByteArray)) := (blk_cell BK135.out 2).trans rfl; have hcz32_3 : w30.cell? ⟨gb135, 3, none⟩ = some (.bool false) := (blk_cell BK135.out 3).trans rfl; have hcz32_4 : w30.cell? ⟨gb135, 4, none⟩ = some (.int .u32 0) := (blk_cell BK135.out 4).trans rfl; have hfz32_0 := blk_frozen BK135.out 0; have hfz32_1 := blk_frozen BK135.out 1; have hfz32_2 := blk_frozen BK135.out 2; have hfz32_3 := blk_frozen BK135.out 3; have hfz32_4 := blk_frozen BK135.out 4))
              have n0_ : Aside0 ((((((w30.setCell ⟨gb135, 0, none⟩ (.int .u32 t129)).setCell ⟨gb135, 1, none⟩ (.int .u32 t130)).setCell ⟨gb135, 2, none⟩ (.string t131)).setCell ⟨gb135, 3, none⟩ (.bool false)).setCell ⟨gb135, 4, none⟩ (.int .u32 t133)).heap[gb127]? = some (.cells #[.int .u32 0, .int .u32 0, .string (⟨#[]⟩ : ByteArray), .bool false, .int .u32 0] 34 (0, 0))) := ⟨by (with_reducible repeat (first | refine blk_drewN ?_ _ | refine blk_drew ?_ | refine blk_alloc ?_ _)); refine blk_far ?_ NB127_135.out _; (with_reducible repeat (first | refine blk_drewN ?_ _ | refine blk_drew ?_ | refine blk_alloc ?_ _)); refine blk_far ?_ NB127_135.out _; (with_reducible repeat (first | refine blk_drewN ?_ _ | refine blk_drew ?_ | refine blk_alloc ?_ _)); refine blk_far ?_ NB127_135.out _; (with_reducible repeat (first | refine blk_drewN ?_ _ | refine blk_drew ?_ | refine blk_alloc ?_ _)); refine blk_far ?_ NB127_135.out _; (with_reducible repeat (first | refine blk_drewN ?_ _ | refine blk_drew ?_ | refine blk_alloc ?_ _)); refine blk_far ?_ NB127_135.out _; (with_reducible repeat (first | refine blk_drewN ?_ _ | refine blk_drew ?_ | refine blk_alloc ?_ _)); exact BK127.out⟩
              have n1_ : Aside0 ((((((w30.setCell ⟨gb135, 0, none⟩ (.int .u32 t129)).setCell ⟨gb135, 1, none⟩ (.int .u32 t130)).setCell ⟨gb135, 2, none⟩ (.string t131)).setCell ⟨gb135, 3, none⟩ (.bool false)).setCell ⟨gb135, 4, none⟩ (.int .u32 t133)).heap[gb135]? = some (.cells #[.int .u32 t129, .int .u32 t130, .string t131, .bool false, .int .u32 t133] 34 (0, 0))) := ⟨by (with_reducible repeat (first | refine blk_drewN ?_ _ | refine blk_drew ?_ | refine blk_alloc ?_ _)); refine blk_put (cs := #[.int .u32 t129, .int .u32 t130, .string t131, .bool false, .int .u32 0]) ?_ 4 _ rfl; (with_reducible repeat (first | refine blk_drewN ?_ _ | refine blk_drew ?_ | refine blk_alloc ?_ _)); refine blk_put (cs := #[.int .u32 t129, .int .u32 t130, .string t131, .bool false, .int .u32 0]) ?_ 3 _ rfl; (with_reducible repeat (first | refine blk_drewN ?_ _ | refine blk_drew ?_ | refine blk_alloc ?_ _)); refine blk_put (cs := #[.int .u32 t129, .int .u32 t130, .string (⟨#[]⟩ : ByteArray), .bool false, .int .u32 0]) ?_ 2 _ rfl; (with_reducible repeat (first | refine blk_drewN ?_ _ | refine blk_drew ?_ | refine blk_alloc ?_ _)); refine blk_put (cs := #[.int .u32 t129, .int .u32 0, .string (⟨#[]⟩ : ByteArray), .bool false, .int .u32 0]) ?_ 1 _ rfl; (with_reducible repeat (first | refine blk_drewN ?_ _ | refine blk_drew ?_ | refine blk_alloc ?_ _)); refine blk_put (cs := #[.int .u32 0, .int .u32 0, .string (⟨#[]⟩ : ByteArray), .bool false, .int .u32 0]) ?_ 0 _ rfl; (with_reducible repeat (first | refine blk_drewN ?_ _ | refine blk_drew ?_ | refine blk_alloc ?_ _)); exact BK135.out⟩
              have n2_ : Aside0 (Below w.heap.size w (((((w30.setCell ⟨gb135, 0, none⟩ (.int .u32 t129)).setCell ⟨gb135, 1, none⟩ (.int .u32 t130)).setCell ⟨gb135, 2, none⟩ (.string t131)).setCell ⟨gb135, 3, none⟩ (.bool false)).setCell ⟨gb135, 4, none⟩ (.int .u32 t133))) := ⟨by repeat (first | (with_reducible first | exact HB.out | apply below_alloc | apply pw_below_drewN | apply below_drew1 | refine below_set ?_ GE127.out | refine below_set ?_ GE135.out) | exact HB.out)⟩
              (try clear BK127)
              (try clear BK135)
              (try clear HB)
              generalize (((((w30.setCell ⟨gb135, 0, none⟩ (.int .u32 t129)).setCell ⟨gb135, 1, none⟩ (.int .u32 t130)).setCell ⟨gb135, 2, none⟩ (.string t131)).setCell ⟨gb135, 3, none⟩ (.bool false)).setCell ⟨gb135, 4, none⟩ (.int .u32 t133)) = w33 at n0_ n1_ n2_ ⊢
              have BK127 := n0_
              have BK135 := n1_
              have HB := n2_
              clear n0_ n1_ n2_
              have n0_ := Aside0.mk (blk_drew BK127.out)
              have n1_ := Aside0.mk (blk_drew BK135.out)
              have n2_ := Aside0.mk (below_drew1 HB.out)
              clear BK127
              clear BK135
              clear HB
              have BK127 := n0_
              have BK135 := n1_
              have HB := n2_
              clear n0_ n1_ n2_
              have p137 : 0 ≤ ((ji6) : Int) := of_decide_eq_true (by first | (with_reducible assumption) | assumption)
              have q137 : (ji6) < (l1.length : Int) := of_decide_eq_true (by first | (with_reducible assumption) | assumption)
              obtain ⟨ad137, e137, hx137_0⟩ := Kd.at_string HR1.out (ji6) p137 q137
              have hw137_0 := hx137_0
              cases e137
              replace hx137_0 := (HB.out.cell (World.block_lt_of_cell? w _ hx137_0)).trans hx137_0
              replace p137 := eq_true p137
              replace q137 := eq_true q137
              refine start_ (n := 9) (S := fun w' => w'.cell? ⟨gb135, 0, none⟩ = some (.int .u32 t129) ∧ w'.cell? ⟨gb135, 1, none⟩ = some (.int .u32 t130) ∧ w'.cell? ⟨gb135, 2, none⟩ = some (.string t131) ∧ w'.cell? ⟨gb135, 3, none⟩ = some (.bool false) ∧ w'.cell? ⟨gb135, 4, none⟩ = some (.int .u32 t133) ∧ w'.cell? (ad137.add ((ji6)).toNat) = some (.string (rdOf ByteArray.empty l1 (ji6)))) (ds := []) #[false, false, false, false, false, false, false, false, false] (by kernel_rfl) rfl rfl ⟨(blk_cell BK135.out 0).trans rfl, (blk_cell BK135.out 1).trans rfl, (blk_cell BK135.out 2).trans rfl, (blk_cell BK135.out 3).trans rfl, (blk_cell BK135.out 4).trans rfl, ((HB.out.cell (World.block_lt_of_cell? w _ hw137_0)).trans hw137_0)⟩ (fun hHeld => ?_); refine with_tabW tree_above.tab7 tree_above.bits7 (fun HT_ HW_ => ?_)
              generalize w33.drew = w34 at BK127 BK135 HB hx137_0 hHeld ⊢
              refine pure_ (i := 1) (N := some 33) (v := ?_) (a' := ?_) #[false, true, false, false, false, false, false, false, false] rfl rfl (any_of HT_.out (by kernel_rfl)) (fun _ _ _ h => h) (Or.inl ⟨by rfl, ?_⟩) ?_ ?_
              rotate_left
              · intro w'
                go_simp
                with_reducible rfl
              rotate_left
              · simp only [Act.put, List.setIfInBounds_toArray, List.set_cons_zero, List.set_cons_succ, i64_w, i32_w]
                rfl
              refine pure_ (i := 2) (N := some 34) (v := ?_) (a' := ?_) #[false, true, true, false, false, false, false, false, false] rfl rfl (any_of HT_.out (by kernel_rfl)) (fun _ _ _ h => h) (Or.inl ⟨by rfl, ?_⟩) ?_ ?_
              rotate_left
              · intro w'
                go_simp
                with_reducible rfl
              rotate_left
              · simp only [Act.put, List.setIfInBounds_toArray, List.set_cons_zero, List.set_cons_succ, i64_w, i32_w]
                rfl
              refine pure_ (i := 3) (N := some 35) (v := ?_) (a' := ?_) #[false, true, true, true, false, false, false, false, false] rfl rfl (any_of HT_.out (by kernel_rfl)) (fun _ _ _ h => h) (Or.inl ⟨by rfl, ?_⟩) ?_ ?_
              rotate_left
              · intro w'
                go_simp
                with_reducible rfl
              rotate_left
              · simp only [Act.put, List.setIfInBounds_toArray, List.set_cons_zero, List.set_cons_succ, i64_w, i32_w]
                rfl
              refine pure_ (i := 5) (N := some 37) (v := ?_) (a' := ?_) #[false, true, true, true, false, true, false, false, false] rfl rfl (any_of HT_.out (by kernel_rfl)) (fun _ _ _ h => h) (Or.inl ⟨by rfl, ?_⟩) ?_ ?_
              rotate_left
              · intro w'
                go_simp
                with_reducible rfl
              rotate_left
              · simp only [Act.put, List.setIfInBounds_toArray, List.set_cons_zero, List.set_cons_succ, i64_w, i32_w]
                rfl
              refine take_ (i := 0) (N := some 32) (v := ?_) (a' := ?_) #[true, true, true, true, false, true, false, false, false] rfl rfl (take_ofW HT_.out HW_.out (by kernel_rfl)) (fun _ _ _ h => h) (Or.inl ⟨by rfl, ?_⟩) hHeld ?_ ?_
              rotate_left
              · rintro w' ⟨s0, s1, s2, s3, s4, s5⟩
                go_simp
                with_reducible rfl
              rotate_left
              · simp only [Act.put, List.setIfInBounds_toArray, List.set_cons_zero, List.set_cons_succ, i64_w, i32_w]
                rfl
              refine take_ (i := 4) (N := some 36) (v := ?_) (a' := ?_) #[true, true, true, true, true, true, false, false, false] rfl rfl (take_ofW HT_.out HW_.out (by kernel_rfl)) (fun _ _ _ h => h) (Or.inl ⟨by rfl, ?_⟩) hHeld ?_ ?_
              rotate_left
              · rintro w' ⟨s0, s1, s2, s3, s4, s5⟩
                go_simp
                with_reducible rfl
              rotate_left
              · simp only [Act.put, List.setIfInBounds_toArray, List.set_cons_zero, List.set_cons_succ, i64_w, i32_w]
                rfl
              refine one_ (i := 6) (N := none) #[true, true, true, true, true, true, true, false, false] rfl rfl (one_of HT_.out (by kernel_rfl)) (by decide) (fun K hK => ?_)
              have hs35 : w34.cell? ⟨gb127, 0, none⟩ = some (.int .u32 0) := (blk_cell BK127.out 0).trans rfl
              have hfs35 := blk_frozen BK127.out 0
              have hns35_1 := NB135_127.out
              have hms35_1 := NB127_135.out
              have hs36 : w34.cell? ⟨gb127, 1, none⟩ = some (.int .u32 0) := (blk_cell BK127.out 1).trans rfl
              have hfs36 := blk_frozen BK127.out 1
              have hns36_1 := NB135_127.out
              have hms36_1 := NB127_135.out
              have hs37 : w34.cell? ⟨gb127, 2, none⟩ = some (.string (⟨#[]⟩ : ByteArray)) := (blk_cell BK127.out 2).trans rfl
              have hfs37 := blk_frozen BK127.out 2
              have hns37_1 := NB135_127.out
              have hms37_1 := NB127_135.out
              have hs38 : w34.cell? ⟨gb127, 3, none⟩ = some (.bool false) := (blk_cell BK127.out 3).trans rfl
              have hfs38 := blk_frozen BK127.out 3
              have hns38_1 := NB135_127.out
              have hms38_1 := NB127_135.out
              have hs39 : w34.cell? ⟨gb127, 4, none⟩ = some (.int .u32 0) := (blk_cell BK127.out 4).trans rfl
              have hfs39 := blk_frozen BK127.out 4
              have hns39_1 := NB135_127.out
              have hms39_1 := NB127_135.out
              refine skip_ (w1 := ?_) (by rfl) rfl ?_ ?_
              rotate_left
              · go_simp
                rfl
              refine hK.out _ _ ⟨((cell_far (p := ⟨gb127, _, none⟩) NB135_127.out _).trans (((cell_far (p := ⟨gb127, _, none⟩) NB135_127.out _).trans (((cell_far (p := ⟨gb127, _, none⟩) NB135_127.out _).trans (((cell_far (p := ⟨gb127, _, none⟩) NB135_127.out _).trans (((cell_far (p := ⟨gb127, _, none⟩) NB135_127.out _).trans (hHeld.1)))))))))), ((cell_far (p := ⟨gb127, _, none⟩) NB135_127.out _).trans (((cell_far (p := ⟨gb127, _, none⟩) NB135_127.out _).trans (((cell_far (p := ⟨gb127, _, none⟩) NB135_127.out _).trans (((cell_far (p := ⟨gb127, _, none⟩) NB135_127.out _).trans (((cell_far (p := ⟨gb127, _, none⟩) NB135_127.out _).trans (hHeld.2.1)))))))))), ((cell_far (p := ⟨gb127, _, none⟩) NB135_127.out _).trans (((cell_far (p := ⟨gb127, _, none⟩) NB135_127.out _).trans (((cell_far (p := ⟨gb127, _, none⟩) NB135_127.out _).trans (((cell_far (p := ⟨gb127, _, none⟩) NB135_127.out _).trans (((cell_far (p := ⟨gb127, _, none⟩) NB135_127.out _).trans (hHeld.2.2.1)))))))))), ((cell_far (p := ⟨gb127, _, none⟩) NB135_127.out _).trans (((cell_far (p := ⟨gb127, _, none⟩) NB135_127.out _).trans (((cell_far (p := ⟨gb127, _, none⟩) NB135_127.out _).trans (((cell_far (p := ⟨gb127, _, none⟩) NB135_127.out _).trans (((cell_far (p := ⟨gb127, _, none⟩) NB135_127.out _).trans (hHeld.2.2.2.1)))))))))), ((cell_far (p := ⟨gb127, _, none⟩) NB135_127.out _).trans (((cell_far (p := ⟨gb127, _, none⟩) NB135_127.out _).trans (((cell_far (p := ⟨gb127, _, none⟩) NB135_127.out _).trans (((cell_far (p := ⟨gb127, _, none⟩) NB135_127.out _).trans (((cell_far (p := ⟨gb127, _, none⟩) NB135_127.out _).trans (hHeld.2.2.2.2.1)))))))))), ((cell_far (p := ⟨gb127, _, none⟩) (by first | exact Nat.ne_of_lt (Nat.lt_of_lt_of_le (by have := World.block_lt_of_cell? _ _ hw137_0; first | rwa [add_block] at this | exact this) GW127.out) | (rw [add_block]; exact Nat.ne_of_lt (Nat.lt_of_lt_of_le (by have := World.block_lt_of_cell? _ _ hw137_0; first | rwa [add_block] at this | exact this) GW127.out)) | (show (Addr.add _ _).block ≠ _; rw [add_block]; exact Nat.ne_of_lt (Nat.lt_of_lt_of_le (by have := World.block_lt_of_cell? _ _ hw137_0; first | rwa [add_block] at this | exact this) GW127.out)) | (dsimp only; exact Nat.ne_of_lt (Nat.lt_of_lt_of_le (by have := World.block_lt_of_cell? _ _ hw137_0; first | rwa [add_block] at this | exact this) GW127.out))) _).trans (((cell_far (p := ⟨gb127, _, none⟩) (by first | exact Nat.ne_of_lt (Nat.lt_of_lt_of_le (by have := World.block_lt_of_cell? _ _ hw137_0; first | rwa [add_block] at this | exact this) GW127.out) | (rw [add_block]; exact Nat.ne_of_lt (Nat.lt_of_lt_of_le (by have := World.block_lt_of_cell? _ _ hw137_0; first | rwa [add_block] at this | exact this) GW127.out)) | (show (Addr.add _ _).block ≠ _; rw [add_block]; exact Nat.ne_of_lt (Nat.lt_of_lt_of_le (by have := World.block_lt_of_cell? _ _ hw137_0; first | rwa [add_block] at this | exact this) GW127.out)) | (dsimp only; exact Nat.ne_of_lt (Nat.lt_of_lt_of_le (by have := World.block_lt_of_cell? _ _ hw137_0; first | rwa [add_block] at this | exact this) GW127.out))) _).trans (((cell_far (p := ⟨gb127, _, none⟩) (by first | exact Nat.ne_of_lt (Nat.lt_of_lt_of_le (by have := World.block_lt_of_cell? _ _ hw137_0; first | rwa [add_block] at this | exact this) GW127.out) | (rw [add_block]; exact Nat.ne_of_lt (Nat.lt_of_lt_of_le (by have := World.block_lt_of_cell? _ _ hw137_0; first | rwa [add_block] at this | exact this) GW127.out)) | (show (Addr.add _ _).block ≠ _; rw [add_block]; exact Nat.ne_of_lt (Nat.lt_of_lt_of_le (by have := World.block_lt_of_cell? _ _ hw137_0; first | rwa [add_block] at this | exact this) GW127.out)) | (dsimp only; exact Nat.ne_of_lt (Nat.lt_of_lt_of_le (by have := World.block_lt_of_cell? _ _ hw137_0; first | rwa [add_block] at this | exact this) GW127.out))) _).trans (((cell_far (p := ⟨gb127, _, none⟩) (by first | exact Nat.ne_of_lt (Nat.lt_of_lt_of_le (by have := World.block_lt_of_cell? _ _ hw137_0; first | rwa [add_block] at this | exact this) GW127.out) | (rw [add_block]; exact Nat.ne_of_lt (Nat.lt_of_lt_of_le (by have := World.block_lt_of_cell? _ _ hw137_0; first | rwa [add_block] at this | exact this) GW127.out)) | (show (Addr.add _ _).block ≠ _; rw [add_block]; exact Nat.ne_of_lt (Nat.lt_of_lt_of_le (by have := World.block_lt_of_cell? _ _ hw137_0; first | rwa [add_block] at this | exact this) GW127.out)) | (dsimp only; exact Nat.ne_of_lt (Nat.lt_of_lt_of_le (by have := World.block_lt_of_cell? _ _ hw137_0; first | rwa [add_block] at this | exact this) GW127.out))) _).trans (((cell_far (p := ⟨gb127, _, none⟩) (by first | exact Nat.ne_of_lt (Nat.lt_of_lt_of_le (by have := World.block_lt_of_cell? _ _ hw137_0; first | rwa [add_block] at this | exact this) GW127.out) | (rw [add_block]; exact Nat.ne_of_lt (Nat.lt_of_lt_of_le (by have := World.block_lt_of_cell? _ _ hw137_0; first | rwa [add_block] at this | exact this) GW127.out)) | (show (Addr.add _ _).block ≠ _; rw [add_block]; exact Nat.ne_of_lt (Nat.lt_of_lt_of_le (by have := World.block_lt_of_cell? _ _ hw137_0; first | rwa [add_block] at this | exact this) GW127.out)) | (dsimp only; exact Nat.ne_of_lt (Nat.lt_of_lt_of_le (by have := World.block_lt_of_cell? _ _ hw137_0; first | rwa [add_block] at this | exact this) GW127.out))) _).trans (hHeld.2.2.2.2.2))))))))))⟩ (fun hHeld => ?_)
              clear hK K
              refine pure_ (i := 7) (N := some 5) (v := ?_) (a' := ?_) #[true, true, true, true, true, true, true, true, false] rfl rfl (any_of HT_.out (by kernel_rfl)) (fun _ _ _ h => h) (Or.inl ⟨by rfl, ?_⟩) ?_ ?_
              rotate_left
              · intro w'
                go_simp
                with_reducible rfl
              rotate_left
              · simp only [Act.put, List.setIfInBounds_toArray, List.set_cons_zero, List.set_cons_succ, i64_w, i32_w]
                rfl
              refine pure_ (i := 8) (N := some 6) (v := ?_) (a' := ?_) #[true, true, true, true, true, true, true, true, true] rfl rfl (any_of HT_.out (by kernel_rfl)) (fun _ _ _ h => h) (Or.inl ⟨by rfl, ?_⟩) ?_ ?_
              rotate_left
              · intro w'
                go_simp
                with_reducible rfl
              rotate_left
              · simp only [Act.put, List.setIfInBounds_toArray, List.set_cons_zero, List.set_cons_succ, i64_w, i32_w]
                rfl
              refine done_ (done_of HT_.out (by kernel_rfl)) ?_
              try go_wp2
              refine bodyPost_ret (results_ctt rfl _ _ gb127 34 #[.int .u32 t129, .int .u32 t130, .string t131, .bool false, .int .u32 t133] (0, 0) _ rfl (by (with_reducible repeat (first | refine blk_drewN ?_ _ | refine blk_drew ?_ | refine blk_alloc ?_ _)); refine blk_put (cs := #[.int .u32 t129, .int .u32 t130, .string t131, .bool false, .int .u32 0]) ?_ 4 _ rfl; (with_reducible repeat (first | refine blk_drewN ?_ _ | refine blk_drew ?_ | refine blk_alloc ?_ _)); refine blk_put (cs := #[.int .u32 t129, .int .u32 t130, .string t131, .bool false, .int .u32 0]) ?_ 3 _ rfl; (with_reducible repeat (first | refine blk_drewN ?_ _ | refine blk_drew ?_ | refine blk_alloc ?_ _)); refine blk_put (cs := #[.int .u32 t129, .int .u32 t130, .string (⟨#[]⟩ : ByteArray), .bool false, .int .u32 0]) ?_ 2 _ rfl; (with_reducible repeat (first | refine blk_drewN ?_ _ | refine blk_drew ?_ | refine blk_alloc ?_ _)); refine blk_put (cs := #[.int .u32 t129, .int .u32 0, .string (⟨#[]⟩ : ByteArray), .bool false, .int .u32 0]) ?_ 1 _ rfl; (with_reducible repeat (first | refine blk_drewN ?_ _ | refine blk_drew ?_ | refine blk_alloc ?_ _)); refine blk_put (cs := #[.int .u32 0, .int .u32 0, .string (⟨#[]⟩ : ByteArray), .bool false, .int .u32 0]) ?_ 0 _ rfl; (with_reducible repeat (first | refine blk_drewN ?_ _ | refine blk_drew ?_ | refine blk_alloc ?_ _)); exact BK127.out) Tryd.underlying34 rfl (by kernel_rfl)) rfl ?_
              exact ⟨by first | rfl | (simp [errW_none, errW_some] <;> rfl) | (simp only [← hji6]; first | rfl | (simp [errW_none, errW_some] <;> rfl)) | (simp [*, errW_none, errW_some] <;> rfl), by repeat (first | (with_reducible first | exact HB.out | apply below_alloc | apply pw_below_drewN | apply below_drew1 | refine below_set ?_ GE127.out | refine below_set ?_ GE135.out) | exact HB.out)⟩
            · rw [if_neg c26] at H
              exact absurd H (by simp)
        · rw [if_neg c10] at H
          have c10b0 : (t134 == 0) = false := beq_eq_false_iff_ne.mpr c10
          have c10b1 : (t134 != 0) = true := bne_iff_ne.mpr c10
          by_cases c40 : (ji6) < (l1.length : Int)
          · rw [if_pos c40] at H
            have c40b0 : decide ((ji6) < (l1.length : Int)) = true := decide_eq_true c40
            clear c40
            simp only [Option.some.injEq, Prod.mk.injEq] at H
            obtain ⟨rfl, rfl, rfl, rfl, rfl, rfl, rfl⟩ := H
            go_enter Tryd.func36, Tryd.ntmps36
            try go_wp2_with (first | ((with_reducible refine gate_dst (N := 4) rfl ?_); refine box_event ?hg (N := 4) ?hd (cs := #[.int .u32 0, .int .u32 0, .string (⟨#[]⟩ : ByteArray), .bool false, .int .u32 0]) (t := 34) ?hr ?_; (case hd => rfl); (case hg => rfl); (case hr => first | (go_simp; done) | (go_simp; rfl)); intro gb127 hg w41 hbox hb; have n0_ := Aside0.mk (below_step (by repeat (first | (with_reducible first | exact HB.out | apply below_alloc | apply pw_below_drewN | apply below_drew1) | exact HB.out)) hb); have n1_ := Aside0.mk (hbox); have n2_ := Aside0.mk ((by rw [hg]; exact (below_size (by repeat (first | (with_reducible first | exact HB.out | apply below_alloc | apply pw_below_drewN | apply below_drew1) | exact HB.out))) : w.heap.size ≤ gb127)); have n3_ := Aside0.mk ((by rw [hg]; exact (below_size (by repeat (first | (with_reducible first | exact HB.out | apply below_alloc | apply pw_below_drewN | apply below_drew1) | exact HB.out))) : w.heap.size ≤ gb127)); clear HB; have HB := n0_; have BK127 := n1_; have GW127 := n2_; have GE127 := n3_; clear n0_ n1_ n2_ n3_; clear hb hbox hg; obtain ⟨i042, hi042, _, hsz42, _⟩ := info_parts info9; obtain ⟨hcut42, hA42, hC42⟩ := print_take_of (P := Tryd.prog) Value.string (⟨#[]⟩ : ByteArray) 54 9 .i64 Tryd.underlying54 hi042 hsz42 A1 c1 l1 (ji6) (of_decide_eq_true (by first | (with_reducible assumption) | assumption)) (of_decide_eq_true (by first | (with_reducible assumption) | assumption)) HC1.out; have HR128 := Aside0.mk (Kd.C_of_reads (h1 := fun _ => rfl) (hA42 _ (Kd.reads_of_C HR1.out))); have HC128 := Aside0.mk hC42; clear hA42 hC42 hi042 hsz42) | ((with_reducible refine gate_callee (f := 35) rfl ?_); refine goesL_ (some 22) rfl rfl Tryd.func35 (by kernel_rfl) rfl #[.slice A0 l0.length c0, .slice A1 (l1.take ((ji6) : Int).toNat).length c1] rfl (by (try simp only [List.map_toArray, List.map_cons, List.map_nil]); first | done | (rw [show (l1.take ((ji6) : Int).toNat).length = (ji6).toNat from (by rw [List.length_take]; have h_ : ((ji6) : Int) ≤ (l1.length : Int) := of_decide_eq_true (by first | (with_reducible assumption) | assumption); omega)] <;> rfl) | (simp only [hji6]; rfl) | rfl | (simp only [List.length_drop, List.length_take]; rfl)) ?_; (with_reducible refine (tree_walk.calls k _ _ l0 _ _ (l1.take ((ji6) : Int).toNat) t129 t130 t131 t132 t133 t134 _ ?side1 ?side2 ?side3 ?side4 A9.out).mono ?_); (case side1 => repeat (first | exact (Kd.C_below HR0.out HB.out) | (with_reducible refine Kd.C_alloc ?_ _) | (with_reducible refine Kd.C_drewN ?_ _) | (with_reducible refine Kd.C_drew ?_))); (case side2 => exact HC0.out); (case side3 => repeat (first | exact (Kd.C_below HR128.out HB.out) | (with_reducible refine Kd.C_alloc ?_ _) | (with_reducible refine Kd.C_drewN ?_ _) | (with_reducible refine Kd.C_drew ?_))); (case side4 => exact HC128.out); rintro e w43 ⟨rfl, hb⟩; refine ⟨_, rfl, ?_⟩; have n0_ := Aside0.mk (blk_below (g := gb127) (o := .cells #[.int .u32 0, .int .u32 0, .string (⟨#[]⟩ : ByteArray), .bool false, .int .u32 0] 34 (0, 0)) (by (with_reducible repeat (first | refine blk_drewN ?_ _ | refine blk_drew ?_ | refine blk_alloc ?_ _)); exact BK127.out) hb); have n1_ := Aside0.mk (below_step (by repeat (first | (with_reducible first | exact HB.out | apply below_alloc | apply pw_below_drewN | apply below_drew1 | refine below_set ?_ GE127.out) | exact HB.out)) hb); clear BK127; clear HB; have BK127 := n0_; have HB := n1_; clear n0_ n1_; (try clear hb); (try clear hb2); (try clear hk); (try clear hi)) | ((with_reducible refine gate_dst (N := 8) rfl ?_); refine box_event ?hg (N := 8) ?hd (cs := #[.int .u32 0, .int .u32 0, .string (⟨#[]⟩ : ByteArray), .bool false, .int .u32 0]) (t := 34) ?hr ?_; (case hd => rfl); (case hg => rfl); (case hr => first | (go_simp; done) | (go_simp; rfl)); intro gb135 hg w44 hbox hb; have n0_ := Aside0.mk (blk_below (g := gb127) (o := .cells #[.int .u32 0, .int .u32 0, .string (⟨#[]⟩ : ByteArray), .bool false, .int .u32 0] 34 (0, 0)) (by (with_reducible repeat (first | refine blk_drewN ?_ _ | refine blk_drew ?_ | refine blk_alloc ?_ _)); exact BK127.out) hb); have n1_ := Aside0.mk (below_step (by repeat (first | (with_reducible first | exact HB.out | apply below_alloc | apply pw_below_drewN | apply below_drew1 | refine below_set ?_ GE127.out) | exact HB.out)) hb); have n2_ := Aside0.mk (hbox); have n3_ := Aside0.mk ((by rw [hg]; exact (below_size (by repeat (first | (with_reducible first | exact HB.out | apply below_alloc | apply pw_below_drewN | apply below_drew1 | refine below_set ?_ GE127.out) | exact HB.out))) : w.heap.size ≤ gb135)); have n4_ := Aside0.mk ((by rw [hg]; exact (below_size (by repeat (first | (with_reducible first | exact HB.out | apply below_alloc | apply pw_below_drewN | apply below_drew1 | refine below_set ?_ GE127.out) | exact HB.out))) : w.heap.size ≤ gb135)); have n5_ := Aside0.mk ((by rw [hg]; exact Nat.ne_of_lt (blk_lt (g := gb127) (o := .cells #[.int .u32 0, .int .u32 0, .string (⟨#[]⟩ : ByteArray), .bool false, .int .u32 0] 34 (0, 0)) (by (with_reducible repeat (first | refine blk_drewN ?_ _ | refine blk_drew ?_ | refine blk_alloc ?_ _)); exact BK127.out)) : gb127 ≠ gb135)); have n6_ := Aside0.mk ((by rw [hg]; exact Nat.ne_of_gt (blk_lt (g := gb127) (o := .cells #[.int .u32 0, .int .u32 0, .string (⟨#[]⟩ : ByteArray), .bool false, .int .u32 0] 34 (0, 0)) (by (with_reducible repeat (first | refine blk_drewN ?_ _ | refine blk_drew ?_ | refine blk_alloc ?_ _)); exact BK127.out)) : gb135 ≠ gb127)); clear BK127; clear HB; have BK127 := n0_; have HB := n1_; have BK135 := n2_; have GW135 := n3_; have GE135 := n4_; have NB127_135 := n5_; have NB135_127 := n6_; clear n0_ n1_ n2_ n3_ n4_ n5_ n6_; clear hb hbox hg; have hnb45 := NB135_127.out; have hnc45 := NB127_135.out; have hcz46_0 : w44.cell? ⟨gb135, 0, none⟩ = some (.int .u32 0) := (blk_cell BK135.out 0).trans rfl; have hcz46_1 : w44.cell? ⟨gb135, 1, none⟩ = some (.int .u32 0) := (blk_cell BK135.out 1).trans rfl; have hcz46_2 : w44.cell? ⟨gb135, 2, none⟩ = some (.string (⟨#[]⟩ : ByteArray)) := (blk_cell BK135.out 2).trans rfl; have hcz46_3 : w44.cell? ⟨gb135, 3, none⟩ = some (.bool false) := (blk_cell BK135.out 3).trans rfl; have hcz46_4 : w44.cell? ⟨gb135, 4, none⟩ = some (.int .u32 0) := (blk_cell BK135.out 4).trans rfl; have hfz46_0 := blk_frozen BK135.out 0; have hfz46_1 := blk_frozen BK135.out 1; have hfz46_2 := blk_frozen BK135.out 2; have hfz46_3 := blk_frozen BK135.out 3; have hfz46_4 := blk_frozen BK135.out 4))
            have n0_ : Aside0 ((((((w44.setCell ⟨gb135, 0, none⟩ (.int .u32 t129)).setCell ⟨gb135, 1, none⟩ (.int .u32 t130)).setCell ⟨gb135, 2, none⟩ (.string t131)).setCell ⟨gb135, 3, none⟩ (.bool t132)).setCell ⟨gb135, 4, none⟩ (.int .u32 t133)).heap[gb127]? = some (.cells #[.int .u32 0, .int .u32 0, .string (⟨#[]⟩ : ByteArray), .bool false, .int .u32 0] 34 (0, 0))) := ⟨by (with_reducible repeat (first | refine blk_drewN ?_ _ | refine blk_drew ?_ | refine blk_alloc ?_ _)); refine blk_far ?_ NB127_135.out _; (with_reducible repeat (first | refine blk_drewN ?_ _ | refine blk_drew ?_ | refine blk_alloc ?_ _)); refine blk_far ?_ NB127_135.out _; (with_reducible repeat (first | refine blk_drewN ?_ _ | refine blk_drew ?_ | refine blk_alloc ?_ _)); refine blk_far ?_ NB127_135.out _; (with_reducible repeat (first | refine blk_drewN ?_ _ | refine blk_drew ?_ | refine blk_alloc ?_ _)); refine blk_far ?_ NB127_135.out _; (with_reducible repeat (first | refine blk_drewN ?_ _ | refine blk_drew ?_ | refine blk_alloc ?_ _)); refine blk_far ?_ NB127_135.out _; (with_reducible repeat (first | refine blk_drewN ?_ _ | refine blk_drew ?_ | refine blk_alloc ?_ _)); exact BK127.out⟩
            have n1_ : Aside0 ((((((w44.setCell ⟨gb135, 0, none⟩ (.int .u32 t129)).setCell ⟨gb135, 1, none⟩ (.int .u32 t130)).setCell ⟨gb135, 2, none⟩ (.string t131)).setCell ⟨gb135, 3, none⟩ (.bool t132)).setCell ⟨gb135, 4, none⟩ (.int .u32 t133)).heap[gb135]? = some (.cells #[.int .u32 t129, .int .u32 t130, .string t131, .bool t132, .int .u32 t133] 34 (0, 0))) := ⟨by (with_reducible repeat (first | refine blk_drewN ?_ _ | refine blk_drew ?_ | refine blk_alloc ?_ _)); refine blk_put (cs := #[.int .u32 t129, .int .u32 t130, .string t131, .bool t132, .int .u32 0]) ?_ 4 _ rfl; (with_reducible repeat (first | refine blk_drewN ?_ _ | refine blk_drew ?_ | refine blk_alloc ?_ _)); refine blk_put (cs := #[.int .u32 t129, .int .u32 t130, .string t131, .bool false, .int .u32 0]) ?_ 3 _ rfl; (with_reducible repeat (first | refine blk_drewN ?_ _ | refine blk_drew ?_ | refine blk_alloc ?_ _)); refine blk_put (cs := #[.int .u32 t129, .int .u32 t130, .string (⟨#[]⟩ : ByteArray), .bool false, .int .u32 0]) ?_ 2 _ rfl; (with_reducible repeat (first | refine blk_drewN ?_ _ | refine blk_drew ?_ | refine blk_alloc ?_ _)); refine blk_put (cs := #[.int .u32 t129, .int .u32 0, .string (⟨#[]⟩ : ByteArray), .bool false, .int .u32 0]) ?_ 1 _ rfl; (with_reducible repeat (first | refine blk_drewN ?_ _ | refine blk_drew ?_ | refine blk_alloc ?_ _)); refine blk_put (cs := #[.int .u32 0, .int .u32 0, .string (⟨#[]⟩ : ByteArray), .bool false, .int .u32 0]) ?_ 0 _ rfl; (with_reducible repeat (first | refine blk_drewN ?_ _ | refine blk_drew ?_ | refine blk_alloc ?_ _)); exact BK135.out⟩
            have n2_ : Aside0 (Below w.heap.size w (((((w44.setCell ⟨gb135, 0, none⟩ (.int .u32 t129)).setCell ⟨gb135, 1, none⟩ (.int .u32 t130)).setCell ⟨gb135, 2, none⟩ (.string t131)).setCell ⟨gb135, 3, none⟩ (.bool t132)).setCell ⟨gb135, 4, none⟩ (.int .u32 t133))) := ⟨by repeat (first | (with_reducible first | exact HB.out | apply below_alloc | apply pw_below_drewN | apply below_drew1 | refine below_set ?_ GE127.out | refine below_set ?_ GE135.out) | exact HB.out)⟩
            (try clear BK127)
            (try clear BK135)
            (try clear HB)
            generalize (((((w44.setCell ⟨gb135, 0, none⟩ (.int .u32 t129)).setCell ⟨gb135, 1, none⟩ (.int .u32 t130)).setCell ⟨gb135, 2, none⟩ (.string t131)).setCell ⟨gb135, 3, none⟩ (.bool t132)).setCell ⟨gb135, 4, none⟩ (.int .u32 t133)) = w47 at n0_ n1_ n2_ ⊢
            have BK127 := n0_
            have BK135 := n1_
            have HB := n2_
            clear n0_ n1_ n2_
            have n0_ := Aside0.mk (blk_drew BK127.out)
            have n1_ := Aside0.mk (blk_drew BK135.out)
            have n2_ := Aside0.mk (below_drew1 HB.out)
            clear BK127
            clear BK135
            clear HB
            have BK127 := n0_
            have BK135 := n1_
            have HB := n2_
            clear n0_ n1_ n2_
            have p138 : 0 ≤ ((ji6) : Int) := of_decide_eq_true (by first | (with_reducible assumption) | assumption)
            have q138 : (ji6) < (l1.length : Int) := of_decide_eq_true (by first | (with_reducible assumption) | assumption)
            obtain ⟨ad138, e138, hx138_0⟩ := Kd.at_string HR1.out (ji6) p138 q138
            have hw138_0 := hx138_0
            cases e138
            replace hx138_0 := (HB.out.cell (World.block_lt_of_cell? w _ hx138_0)).trans hx138_0
            replace p138 := eq_true p138
            replace q138 := eq_true q138
            refine start_ (n := 9) (S := fun w' => w'.cell? ⟨gb135, 0, none⟩ = some (.int .u32 t129) ∧ w'.cell? ⟨gb135, 1, none⟩ = some (.int .u32 t130) ∧ w'.cell? ⟨gb135, 2, none⟩ = some (.string t131) ∧ w'.cell? ⟨gb135, 3, none⟩ = some (.bool t132) ∧ w'.cell? ⟨gb135, 4, none⟩ = some (.int .u32 t133) ∧ w'.cell? (ad138.add ((ji6)).toNat) = some (.string (rdOf ByteArray.empty l1 (ji6)))) (ds := []) #[false, false, false, false, false, false, false, false, false] (by kernel_rfl) rfl rfl ⟨(blk_cell BK135.out 0).trans rfl, (blk_cell BK135.out 1).trans rfl, (blk_cell BK135.out 2).trans rfl, (blk_cell BK135.out 3).trans rfl, (blk_cell BK135.out 4).trans rfl, ((HB.out.cell (World.block_lt_of_cell? w _ hw138_0)).trans hw138_0)⟩ (fun hHeld => ?_); refine with_tabW tree_above.tab7 tree_above.bits7 (fun HT_ HW_ => ?_)
            generalize w47.drew = w48 at BK127 BK135 HB hx138_0 hHeld ⊢
            refine pure_ (i := 1) (N := some 33) (v := ?_) (a' := ?_) #[false, true, false, false, false, false, false, false, false] rfl rfl (any_of HT_.out (by kernel_rfl)) (fun _ _ _ h => h) (Or.inl ⟨by rfl, ?_⟩) ?_ ?_
            rotate_left
            · intro w'
              go_simp
              with_reducible rfl
            rotate_left
            · simp only [Act.put, List.setIfInBounds_toArray, List.set_cons_zero, List.set_cons_succ, i64_w, i32_w]
              rfl
            refine pure_ (i := 2) (N := some 34) (v := ?_) (a' := ?_) #[false, true, true, false, false, false, false, false, false] rfl rfl (any_of HT_.out (by kernel_rfl)) (fun _ _ _ h => h) (Or.inl ⟨by rfl, ?_⟩) ?_ ?_
            rotate_left
            · intro w'
              go_simp
              with_reducible rfl
            rotate_left
            · simp only [Act.put, List.setIfInBounds_toArray, List.set_cons_zero, List.set_cons_succ, i64_w, i32_w]
              rfl
            refine pure_ (i := 3) (N := some 35) (v := ?_) (a' := ?_) #[false, true, true, true, false, false, false, false, false] rfl rfl (any_of HT_.out (by kernel_rfl)) (fun _ _ _ h => h) (Or.inl ⟨by rfl, ?_⟩) ?_ ?_
            rotate_left
            · intro w'
              go_simp
              with_reducible rfl
            rotate_left
            · simp only [Act.put, List.setIfInBounds_toArray, List.set_cons_zero, List.set_cons_succ, i64_w, i32_w]
              rfl
            refine pure_ (i := 5) (N := some 37) (v := ?_) (a' := ?_) #[false, true, true, true, false, true, false, false, false] rfl rfl (any_of HT_.out (by kernel_rfl)) (fun _ _ _ h => h) (Or.inl ⟨by rfl, ?_⟩) ?_ ?_
            rotate_left
            · intro w'
              go_simp
              with_reducible rfl
            rotate_left
            · simp only [Act.put, List.setIfInBounds_toArray, List.set_cons_zero, List.set_cons_succ, i64_w, i32_w]
              rfl
            refine take_ (i := 0) (N := some 32) (v := ?_) (a' := ?_) #[true, true, true, true, false, true, false, false, false] rfl rfl (take_ofW HT_.out HW_.out (by kernel_rfl)) (fun _ _ _ h => h) (Or.inl ⟨by rfl, ?_⟩) hHeld ?_ ?_
            rotate_left
            · rintro w' ⟨s0, s1, s2, s3, s4, s5⟩
              go_simp
              with_reducible rfl
            rotate_left
            · simp only [Act.put, List.setIfInBounds_toArray, List.set_cons_zero, List.set_cons_succ, i64_w, i32_w]
              rfl
            refine take_ (i := 4) (N := some 36) (v := ?_) (a' := ?_) #[true, true, true, true, true, true, false, false, false] rfl rfl (take_ofW HT_.out HW_.out (by kernel_rfl)) (fun _ _ _ h => h) (Or.inl ⟨by rfl, ?_⟩) hHeld ?_ ?_
            rotate_left
            · rintro w' ⟨s0, s1, s2, s3, s4, s5⟩
              go_simp
              with_reducible rfl
            rotate_left
            · simp only [Act.put, List.setIfInBounds_toArray, List.set_cons_zero, List.set_cons_succ, i64_w, i32_w]
              rfl
            refine one_ (i := 6) (N := none) #[true, true, true, true, true, true, true, false, false] rfl rfl (one_of HT_.out (by kernel_rfl)) (by decide) (fun K hK => ?_)
            have hs49 : w48.cell? ⟨gb127, 0, none⟩ = some (.int .u32 0) := (blk_cell BK127.out 0).trans rfl
            have hfs49 := blk_frozen BK127.out 0
            have hns49_1 := NB135_127.out
            have hms49_1 := NB127_135.out
            have hs50 : w48.cell? ⟨gb127, 1, none⟩ = some (.int .u32 0) := (blk_cell BK127.out 1).trans rfl
            have hfs50 := blk_frozen BK127.out 1
            have hns50_1 := NB135_127.out
            have hms50_1 := NB127_135.out
            have hs51 : w48.cell? ⟨gb127, 2, none⟩ = some (.string (⟨#[]⟩ : ByteArray)) := (blk_cell BK127.out 2).trans rfl
            have hfs51 := blk_frozen BK127.out 2
            have hns51_1 := NB135_127.out
            have hms51_1 := NB127_135.out
            have hs52 : w48.cell? ⟨gb127, 3, none⟩ = some (.bool false) := (blk_cell BK127.out 3).trans rfl
            have hfs52 := blk_frozen BK127.out 3
            have hns52_1 := NB135_127.out
            have hms52_1 := NB127_135.out
            have hs53 : w48.cell? ⟨gb127, 4, none⟩ = some (.int .u32 0) := (blk_cell BK127.out 4).trans rfl
            have hfs53 := blk_frozen BK127.out 4
            have hns53_1 := NB135_127.out
            have hms53_1 := NB127_135.out
            refine skip_ (w1 := ?_) (by rfl) rfl ?_ ?_
            rotate_left
            · go_simp
              rfl
            refine hK.out _ _ ⟨((cell_far (p := ⟨gb127, _, none⟩) NB135_127.out _).trans (((cell_far (p := ⟨gb127, _, none⟩) NB135_127.out _).trans (((cell_far (p := ⟨gb127, _, none⟩) NB135_127.out _).trans (((cell_far (p := ⟨gb127, _, none⟩) NB135_127.out _).trans (((cell_far (p := ⟨gb127, _, none⟩) NB135_127.out _).trans (hHeld.1)))))))))), ((cell_far (p := ⟨gb127, _, none⟩) NB135_127.out _).trans (((cell_far (p := ⟨gb127, _, none⟩) NB135_127.out _).trans (((cell_far (p := ⟨gb127, _, none⟩) NB135_127.out _).trans (((cell_far (p := ⟨gb127, _, none⟩) NB135_127.out _).trans (((cell_far (p := ⟨gb127, _, none⟩) NB135_127.out _).trans (hHeld.2.1)))))))))), ((cell_far (p := ⟨gb127, _, none⟩) NB135_127.out _).trans (((cell_far (p := ⟨gb127, _, none⟩) NB135_127.out _).trans (((cell_far (p := ⟨gb127, _, none⟩) NB135_127.out _).trans (((cell_far (p := ⟨gb127, _, none⟩) NB135_127.out _).trans (((cell_far (p := ⟨gb127, _, none⟩) NB135_127.out _).trans (hHeld.2.2.1)))))))))), ((cell_far (p := ⟨gb127, _, none⟩) NB135_127.out _).trans (((cell_far (p := ⟨gb127, _, none⟩) NB135_127.out _).trans (((cell_far (p := ⟨gb127, _, none⟩) NB135_127.out _).trans (((cell_far (p := ⟨gb127, _, none⟩) NB135_127.out _).trans (((cell_far (p := ⟨gb127, _, none⟩) NB135_127.out _).trans (hHeld.2.2.2.1)))))))))), ((cell_far (p := ⟨gb127, _, none⟩) NB135_127.out _).trans (((cell_far (p := ⟨gb127, _, none⟩) NB135_127.out _).trans (((cell_far (p := ⟨gb127, _, none⟩) NB135_127.out _).trans (((cell_far (p := ⟨gb127, _, none⟩) NB135_127.out _).trans (((cell_far (p := ⟨gb127, _, none⟩) NB135_127.out _).trans (hHeld.2.2.2.2.1)))))))))), ((cell_far (p := ⟨gb127, _, none⟩) (by first | exact Nat.ne_of_lt (Nat.lt_of_lt_of_le (by have := World.block_lt_of_cell? _ _ hw138_0; first | rwa [add_block] at this | exact this) GW127.out) | (rw [add_block]; exact Nat.ne_of_lt (Nat.lt_of_lt_of_le (by have := World.block_lt_of_cell? _ _ hw138_0; first | rwa [add_block] at this | exact this) GW127.out)) | (show (Addr.add _ _).block ≠ _; rw [add_block]; exact Nat.ne_of_lt (Nat.lt_of_lt_of_le (by have := World.block_lt_of_cell? _ _ hw138_0; first | rwa [add_block] at this | exact this) GW127.out)) | (dsimp only; exact Nat.ne_of_lt (Nat.lt_of_lt_of_le (by have := World.block_lt_of_cell? _ _ hw138_0; first | rwa [add_block] at this | exact this) GW127.out))) _).trans (((cell_far (p := ⟨gb127, _, none⟩) (by first | exact Nat.ne_of_lt (Nat.lt_of_lt_of_le (by have := World.block_lt_of_cell? _ _ hw138_0; first | rwa [add_block] at this | exact this) GW127.out) | (rw [add_block]; exact Nat.ne_of_lt (Nat.lt_of_lt_of_le (by have := World.block_lt_of_cell? _ _ hw138_0; first | rwa [add_block] at this | exact this) GW127.out)) | (show (Addr.add _ _).block ≠ _; rw [add_block]; exact Nat.ne_of_lt (Nat.lt_of_lt_of_le (by have := World.block_lt_of_cell? _ _ hw138_0; first | rwa [add_block] at this | exact this) GW127.out)) | (dsimp only; exact Nat.ne_of_lt (Nat.lt_of_lt_of_le (by have := World.block_lt_of_cell? _ _ hw138_0; first | rwa [add_block] at this | exact this) GW127.out))) _).trans (((cell_far (p := ⟨gb127, _, none⟩) (by first | exact Nat.ne_of_lt (Nat.lt_of_lt_of_le (by have := World.block_lt_of_cell? _ _ hw138_0; first | rwa [add_block] at this | exact this) GW127.out) | (rw [add_block]; exact Nat.ne_of_lt (Nat.lt_of_lt_of_le (by have := World.block_lt_of_cell? _ _ hw138_0; first | rwa [add_block] at this | exact this) GW127.out)) | (show (Addr.add _ _).block ≠ _; rw [add_block]; exact Nat.ne_of_lt (Nat.lt_of_lt_of_le (by have := World.block_lt_of_cell? _ _ hw138_0; first | rwa [add_block] at this | exact this) GW127.out)) | (dsimp only; exact Nat.ne_of_lt (Nat.lt_of_lt_of_le (by have := World.block_lt_of_cell? _ _ hw138_0; first | rwa [add_block] at this | exact this) GW127.out))) _).trans (((cell_far (p := ⟨gb127, _, none⟩) (by first | exact Nat.ne_of_lt (Nat.lt_of_lt_of_le (by have := World.block_lt_of_cell? _ _ hw138_0; first | rwa [add_block] at this | exact this) GW127.out) | (rw [add_block]; exact Nat.ne_of_lt (Nat.lt_of_lt_of_le (by have := World.block_lt_of_cell? _ _ hw138_0; first | rwa [add_block] at this | exact this) GW127.out)) | (show (Addr.add _ _).block ≠ _; rw [add_block]; exact Nat.ne_of_lt (Nat.lt_of_lt_of_le (by have := World.block_lt_of_cell? _ _ hw138_0; first | rwa [add_block] at this | exact this) GW127.out)) | (dsimp only; exact Nat.ne_of_lt (Nat.lt_of_lt_of_le (by have := World.block_lt_of_cell? _ _ hw138_0; first | rwa [add_block] at this | exact this) GW127.out))) _).trans (((cell_far (p := ⟨gb127, _, none⟩) (by first | exact Nat.ne_of_lt (Nat.lt_of_lt_of_le (by have := World.block_lt_of_cell? _ _ hw138_0; first | rwa [add_block] at this | exact this) GW127.out) | (rw [add_block]; exact Nat.ne_of_lt (Nat.lt_of_lt_of_le (by have := World.block_lt_of_cell? _ _ hw138_0; first | rwa [add_block] at this | exact this) GW127.out)) | (show (Addr.add _ _).block ≠ _; rw [add_block]; exact Nat.ne_of_lt (Nat.lt_of_lt_of_le (by have := World.block_lt_of_cell? _ _ hw138_0; first | rwa [add_block] at this | exact this) GW127.out)) | (dsimp only; exact Nat.ne_of_lt (Nat.lt_of_lt_of_le (by have := World.block_lt_of_cell? _ _ hw138_0; first | rwa [add_block] at this | exact this) GW127.out))) _).trans (hHeld.2.2.2.2.2))))))))))⟩ (fun hHeld => ?_)
            clear hK K
            refine pure_ (i := 7) (N := some 5) (v := ?_) (a' := ?_) #[true, true, true, true, true, true, true, true, false] rfl rfl (any_of HT_.out (by kernel_rfl)) (fun _ _ _ h => h) (Or.inl ⟨by rfl, ?_⟩) ?_ ?_
            rotate_left
            · intro w'
              go_simp
              with_reducible rfl
            rotate_left
            · simp only [Act.put, List.setIfInBounds_toArray, List.set_cons_zero, List.set_cons_succ, i64_w, i32_w]
              rfl
            refine pure_ (i := 8) (N := some 6) (v := ?_) (a' := ?_) #[true, true, true, true, true, true, true, true, true] rfl rfl (any_of HT_.out (by kernel_rfl)) (fun _ _ _ h => h) (Or.inl ⟨by rfl, ?_⟩) ?_ ?_
            rotate_left
            · intro w'
              go_simp
              with_reducible rfl
            rotate_left
            · simp only [Act.put, List.setIfInBounds_toArray, List.set_cons_zero, List.set_cons_succ, i64_w, i32_w]
              rfl
            refine done_ (done_of HT_.out (by kernel_rfl)) ?_
            try go_wp2
            refine bodyPost_ret (results_ctt rfl _ _ gb127 34 #[.int .u32 t129, .int .u32 t130, .string t131, .bool t132, .int .u32 t133] (0, 0) _ rfl (by (with_reducible repeat (first | refine blk_drewN ?_ _ | refine blk_drew ?_ | refine blk_alloc ?_ _)); refine blk_put (cs := #[.int .u32 t129, .int .u32 t130, .string t131, .bool t132, .int .u32 0]) ?_ 4 _ rfl; (with_reducible repeat (first | refine blk_drewN ?_ _ | refine blk_drew ?_ | refine blk_alloc ?_ _)); refine blk_put (cs := #[.int .u32 t129, .int .u32 t130, .string t131, .bool false, .int .u32 0]) ?_ 3 _ rfl; (with_reducible repeat (first | refine blk_drewN ?_ _ | refine blk_drew ?_ | refine blk_alloc ?_ _)); refine blk_put (cs := #[.int .u32 t129, .int .u32 t130, .string (⟨#[]⟩ : ByteArray), .bool false, .int .u32 0]) ?_ 2 _ rfl; (with_reducible repeat (first | refine blk_drewN ?_ _ | refine blk_drew ?_ | refine blk_alloc ?_ _)); refine blk_put (cs := #[.int .u32 t129, .int .u32 0, .string (⟨#[]⟩ : ByteArray), .bool false, .int .u32 0]) ?_ 1 _ rfl; (with_reducible repeat (first | refine blk_drewN ?_ _ | refine blk_drew ?_ | refine blk_alloc ?_ _)); refine blk_put (cs := #[.int .u32 0, .int .u32 0, .string (⟨#[]⟩ : ByteArray), .bool false, .int .u32 0]) ?_ 0 _ rfl; (with_reducible repeat (first | refine blk_drewN ?_ _ | refine blk_drew ?_ | refine blk_alloc ?_ _)); exact BK127.out) Tryd.underlying34 rfl (by kernel_rfl)) rfl ?_
            exact ⟨by first | rfl | (simp [errW_none, errW_some] <;> rfl) | (simp only [← hji6]; first | rfl | (simp [errW_none, errW_some] <;> rfl)) | (simp [*, errW_none, errW_some] <;> rfl), by repeat (first | (with_reducible first | exact HB.out | apply below_alloc | apply pw_below_drewN | apply below_drew1 | refine below_set ?_ GE127.out | refine below_set ?_ GE135.out) | exact HB.out)⟩
          · rw [if_neg c40] at H
            exact absurd H (by simp)
      · rw [if_neg c8] at H
        exact absurd H (by simp)
    · rw [if_neg c7] at H
      exact absurd H (by simp)

end Go.Proofs.YthbdgahmlggpmaaDoor.Q
