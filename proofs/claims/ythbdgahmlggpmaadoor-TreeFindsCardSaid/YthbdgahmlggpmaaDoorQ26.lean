-- Printed by wip/pr.py of this work, over the kit's print, with functions proved by hand in their places.
import Derived.Test.YthbdgahmlggpmaaDoorQ0
import Derived.Test.YthbdgahmlggpmaaDoorQ21
import Derived.Test.YthbdgahmlggpmaaDoorQ25
namespace Go.Proofs.YthbdgahmlggpmaaDoor.Q
open Go.RowKit Go.Proofs.YthbdgahmlggpmaaDoorW.PrintWords Go.Proofs.YthbdgahmlggpmaaDoorW.PrintLast Go.Proofs.YthbdgahmlggpmaaDoorW.PrintMore
attribute [local go_sem] max2_int min2_int max_two min_two max_three min_three max_four min_four   -- for this text's walks alone
set_option linter.unusedVariables false
set_option linter.unusedSimpArgs false

/-! ### r10_List: function 31 -/
def r10_List.l0 : Nat → List (S34) → Int → List ByteArray → Int → Option (List ByteArray × Int)
  | 0, _, _, _, _ => none
  | k + 1, x0, x6, x8, x9 => if x9 < (x0.length : Int) then (if 0 ≤ x9 then (if 0 ≤ x6 then (if x6 < (x0.length : Int) then (if ((rd_T34 x0 x9).f1) = ((rd_T34 x0 x6).f0) then ((r10_put.f k x8 ((rd_T34 x0 x9).f2)).bind fun t488 => (r10_List.l0 k x0 x6 t488 (wrap64 (x9 + 1)))) else (r10_List.l0 k x0 x6 x8 (wrap64 (x9 + 1)))) else (none)) else (none)) else (none)) else (some (x8, 0))
def r10_List.f (k : Nat) (l0 : List (S34)) (a1 : ByteArray) : Option (List ByteArray × Int) := (r10_Find.f k l0 a1).bind fun bt482 => (if bt482.2 = 0 then (if 0 ≤ bt482.1 then (if bt482.1 < (l0.length : Int) then (if ((rd_T34 l0 bt482.1).f3 = true) then (r10_List.l0 k l0 bt482.1 ([] : List ByteArray) 1) else (some (([] : List ByteArray), 10))) else (none)) else (none)) else (some (([] : List ByteArray), bt482.2)))
theorem r10_List.mono_l : ∀ k, (∀ y0 y1 y2 y3, LeO (r10_List.l0 k y0 y1 y2 y3) (r10_List.l0 (k + 1) y0 y1 y2 y3))
  | 0 => fun _ _ _ _ r h => by simp [r10_List.l0] at h
  | k + 1 => by
    have ih0 := r10_List.mono_l k
    · intro y0 y1 y2 y3
      unfold r10_List.l0
      repeat' first
      | (with_reducible exact ih0 _ _ _ _)
      | (with_reducible exact r10_Find.mono _ _ _)
      | (with_reducible exact r10_put.mono _ _ _)
      | (with_reducible exact LeO.refl _)
      | (with_reducible exact LeO.none _)
      | (with_reducible refine LeO.ite ?_ ?_)
      | (with_reducible refine LeO.bind ?_ (fun _ => ?_))
      | exact ih0 _ _ _ _
      | exact r10_Find.mono _ _ _
      | exact r10_put.mono _ _ _
      | exact LeO.none _
      | refine LeO.ite ?_ ?_
      | refine LeO.bind ?_ (fun _ => ?_)
theorem r10_List.mono : ∀ a0 a1 k, LeO (r10_List.f k a0 a1) (r10_List.f (k + 1) a0 a1) := by
  intro a0 a1 k
  have ih0 := r10_List.mono_l k
  unfold r10_List.f
  repeat' first
      | (with_reducible exact ih0 _ _ _ _)
      | (with_reducible exact r10_Find.mono _ _ _)
      | (with_reducible exact r10_put.mono _ _ _)
      | (with_reducible exact LeO.refl _)
      | (with_reducible exact LeO.none _)
      | (with_reducible refine LeO.ite ?_ ?_)
      | (with_reducible refine LeO.bind ?_ (fun _ => ?_))
      | exact ih0 _ _ _ _
      | exact r10_Find.mono _ _ _
      | exact r10_put.mono _ _ _
      | exact LeO.none _
      | refine LeO.ite ?_ ?_
      | refine LeO.bind ?_ (fun _ => ?_)
set_option maxHeartbeats 8000000 in
set_option maxRecDepth 100000 in
theorem r10_List.calls (k : Nat) (A0 : Option Addr) (c0 : Nat) (l0 : List (S34)) (a1 : ByteArray) (r1 : List ByteArray) (r2 : Int) (w : World) (hr0 : Kd.C k34 w A0 l0.length l0) (hc0 : l0.length ≤ c0) (h : r10_List.f k l0 a1 = some (r1, r2)) :
    Calls Tryd.prog 31 #[.slice A0 l0.length c0, .string a1] w fun e w' => ∃ v0_ : Value, e = .returned (.tuple #[v0_, .int .i64 r2]) ∧ Kd.R Kd.string 9 w' w.heap.size (fun _ => True) v0_ r1 ∧ Below w.heap.size w w' := by
  have HR0 := Aside0.mk hr0
  have HC0 := Aside0.mk hc0
  clear hr0 hc0
  have HB := Aside0.mk (Below.refl w.heap.size w)
  have H : ((r10_Find.f k l0 a1).bind fun bt482 => (if bt482.2 = 0 then (if 0 ≤ bt482.1 then (if bt482.1 < (l0.length : Int) then (if ((rd_T34 l0 bt482.1).f3 = true) then (r10_List.l0 k l0 bt482.1 ([] : List ByteArray) 1) else (some (([] : List ByteArray), 10))) else (none)) else (none)) else (some (([] : List ByteArray), bt482.2)))) = some (r1, r2) := h
  clear h
  replace H := Option.bind_eq_some_iff.mp H
  obtain ⟨⟨t482, t483⟩, A30, H⟩ := H
  replace H : (if t483 = 0 then (if 0 ≤ t482 then (if t482 < (l0.length : Int) then (if ((rd_T34 l0 t482).f3 = true) then (r10_List.l0 k l0 t482 ([] : List ByteArray) 1) else (some (([] : List ByteArray), 10))) else (none)) else (none)) else (some (([] : List ByteArray), t483))) = some (r1, r2) := H
  have A3 := Aside0.mk A30
  clear A30
  by_cases c4 : t483 = 0
  · rw [if_pos c4] at H
    have c4b0 : (t483 == 0) = true := beq_iff_eq.mpr c4
    have c4b1 : (t483 != 0) = false := bne_eq_false_iff_eq.mpr c4
    clear c4
    by_cases c5 : 0 ≤ t482
    · rw [if_pos c5] at H
      have c5b0 : decide (0 ≤ t482) = true := decide_eq_true c5
      clear c5
      by_cases c6 : t482 < (l0.length : Int)
      · rw [if_pos c6] at H
        have c6b0 : decide (t482 < (l0.length : Int)) = true := decide_eq_true c6
        clear c6
        obtain ⟨bq7, hbq7⟩ : ∃ b_ : Bool, b_ = ((rd_T34 l0 t482).f3) := ⟨_, rfl⟩
        replace H : (if (bq7 = true) then (r10_List.l0 k l0 t482 ([] : List ByteArray) 1) else (some (([] : List ByteArray), 10))) = some (r1, r2) := by rw [← hbq7] at H; exact H
        have Nbq7 := Aside0.mk hbq7
        clear hbq7
        by_cases c8 : (bq7 = true)
        · subst c8
          have H1 : (r10_List.l0 k l0 t482 ([] : List ByteArray) 1) = some (r1, r2) := by rw [if_pos rfl] at H; exact H
          clear H
          have H := H1
          clear H1
          have H' := Aside0.mk H
          clear H
          go_enter Tryd.func31, Tryd.ntmps31
          go_wp2_with (first | (go_at_call 29; (with_reducible refine (r10_Find.calls k _ _ l0 a1 t482 t483 _ ?side1 ?side2 A3.out).mono ?_); (case side1 => repeat (first | exact HR0.out | (with_reducible refine Kd.C_alloc ?_ _) | (with_reducible refine Kd.C_drewN ?_ _) | (with_reducible refine Kd.C_drew ?_))); (case side2 => exact HC0.out); rintro e w9 ⟨rfl, hb⟩; have n0_ := Aside0.mk (below_step (by repeat (first | (with_reducible first | exact HB.out | apply below_alloc | apply pw_below_drewN | apply below_drew1) | exact HB.out)) hb); clear HB; have HB := n0_; clear n0_; (try clear hb); (try clear hb2); (try clear hk); (try clear hi); have p484 : 0 ≤ (t482 : Int) := of_decide_eq_true (by first | (with_reducible assumption) | assumption); have q484 : t482 < (l0.length : Int) := of_decide_eq_true (by first | (with_reducible assumption) | assumption); obtain ⟨ad484, e484, hx484_0, hx484_1, hx484_2, hx484_3, hx484_4⟩ := at_T34 HR0.out t482 p484 q484; (try rw [← Nbq7.out] at hx484_3); cases e484; replace hx484_0 := (HB.out.cell (World.block_lt_of_cell? w _ hx484_0)).trans hx484_0; replace hx484_1 := (HB.out.cell (World.block_lt_of_cell? w _ hx484_1)).trans hx484_1; replace hx484_2 := (HB.out.cell (World.block_lt_of_cell? w _ hx484_2)).trans hx484_2; replace hx484_3 := (HB.out.cell (World.block_lt_of_cell? w _ hx484_3)).trans hx484_3; replace hx484_4 := (HB.out.cell (World.block_lt_of_cell? w _ hx484_4)).trans hx484_4; replace p484 := eq_true p484; replace q484 := eq_true q484))
          repeat (go_quiet (first | (go_at_call 29; (with_reducible refine (r10_Find.calls k _ _ l0 a1 t482 t483 _ ?side1 ?side2 A3.out).mono ?_); (case side1 => repeat (first | exact HR0.out | (with_reducible refine Kd.C_alloc ?_ _) | (with_reducible refine Kd.C_drewN ?_ _) | (with_reducible refine Kd.C_drew ?_))); (case side2 => exact HC0.out); rintro e w9 ⟨rfl, hb⟩; have n0_ := Aside0.mk (below_step (by repeat (first | (with_reducible first | exact HB.out | apply below_alloc | apply pw_below_drewN | apply below_drew1) | exact HB.out)) hb); clear HB; have HB := n0_; clear n0_; (try clear hb); (try clear hb2); (try clear hk); (try clear hi); have p484 : 0 ≤ (t482 : Int) := of_decide_eq_true (by first | (with_reducible assumption) | assumption); have q484 : t482 < (l0.length : Int) := of_decide_eq_true (by first | (with_reducible assumption) | assumption); obtain ⟨ad484, e484, hx484_0, hx484_1, hx484_2, hx484_3, hx484_4⟩ := at_T34 HR0.out t482 p484 q484; (try rw [← Nbq7.out] at hx484_3); cases e484; replace hx484_0 := (HB.out.cell (World.block_lt_of_cell? w _ hx484_0)).trans hx484_0; replace hx484_1 := (HB.out.cell (World.block_lt_of_cell? w _ hx484_1)).trans hx484_1; replace hx484_2 := (HB.out.cell (World.block_lt_of_cell? w _ hx484_2)).trans hx484_2; replace hx484_3 := (HB.out.cell (World.block_lt_of_cell? w _ hx484_3)).trans hx484_3; replace hx484_4 := (HB.out.cell (World.block_lt_of_cell? w _ hx484_4)).trans hx484_4; replace p484 := eq_true p484; replace q484 := eq_true q484)); try go_wp2_with (first | (go_at_call 29; (with_reducible refine (r10_Find.calls k _ _ l0 a1 t482 t483 _ ?side1 ?side2 A3.out).mono ?_); (case side1 => repeat (first | exact HR0.out | (with_reducible refine Kd.C_alloc ?_ _) | (with_reducible refine Kd.C_drewN ?_ _) | (with_reducible refine Kd.C_drew ?_))); (case side2 => exact HC0.out); rintro e w9 ⟨rfl, hb⟩; have n0_ := Aside0.mk (below_step (by repeat (first | (with_reducible first | exact HB.out | apply below_alloc | apply pw_below_drewN | apply below_drew1) | exact HB.out)) hb); clear HB; have HB := n0_; clear n0_; (try clear hb); (try clear hb2); (try clear hk); (try clear hi); have p484 : 0 ≤ (t482 : Int) := of_decide_eq_true (by first | (with_reducible assumption) | assumption); have q484 : t482 < (l0.length : Int) := of_decide_eq_true (by first | (with_reducible assumption) | assumption); obtain ⟨ad484, e484, hx484_0, hx484_1, hx484_2, hx484_3, hx484_4⟩ := at_T34 HR0.out t482 p484 q484; (try rw [← Nbq7.out] at hx484_3); cases e484; replace hx484_0 := (HB.out.cell (World.block_lt_of_cell? w _ hx484_0)).trans hx484_0; replace hx484_1 := (HB.out.cell (World.block_lt_of_cell? w _ hx484_1)).trans hx484_1; replace hx484_2 := (HB.out.cell (World.block_lt_of_cell? w _ hx484_2)).trans hx484_2; replace hx484_3 := (HB.out.cell (World.block_lt_of_cell? w _ hx484_3)).trans hx484_3; replace hx484_4 := (HB.out.cell (World.block_lt_of_cell? w _ hx484_4)).trans hx484_4; replace p484 := eq_true p484; replace q484 := eq_true q484)))
          go_loopg [8, 9] k (fun kq v8 v9 w' => ∃ (x8_1 : List ByteArray) (x9_1 : Int), v9 = .int .i64 x9_1 ∧ Aside0 (r10_List.l0 kq l0 t482 x8_1 x9_1 = some (r1, r2)) ∧ Aside0 (kq ≤ k) ∧ Aside0 (Kd.R Kd.string 9 w' w.heap.size (fun _ => True) v8 x8_1) ∧ Aside0 (Below w.heap.size w w'))
          case atStart => exact ⟨(([] : List ByteArray)), (1), (by first | rfl | (simp; done) | (simp [*]; done)), H', ⟨Nat.le_refl _⟩, ⟨by first | exact Kd.R_nil _ _ _ _ _ | exact Kd.N_nil _ _ _ _ _ | exact Kd.V_nil _ _ _ _ _ | exact Kd.Q_nil _ _ _ _ _ | exact Kd.S_nil _ _ _ _ _⟩, ⟨by repeat (first | (with_reducible first | exact HB.out | apply below_alloc | apply pw_below_drewN | apply below_drew1) | exact HB.out)⟩⟩
          case round =>
            clear H'
            try clear p2
            try clear c3
            try clear c4
            try clear c4b0
            try clear c4b1
            try clear p4
            try clear q4
            try clear hx4
            try clear c5
            try clear c5b0
            try clear c6
            try clear c6b0
            try clear q7
            try clear c8
            try clear hx484_0
            try clear hx484_1
            try clear hx484_2
            try clear hx484_3
            try clear hx484_4
            try clear p484
            try clear q484
            obtain ⟨x8_1, x9_1, rfl, HA, HK1, HO_8, HB⟩ := hrel
            cases gk with
            | zero => exact absurd HA.out (by simp [r10_List.l0])
            | succ k1 =>
              have H := HA.out
              clear HA
              simp only [r10_List.l0] at H
              by_cases c10 : x9_1 < (l0.length : Int)
              · rw [if_pos c10] at H
                have c10b0 : decide (x9_1 < (l0.length : Int)) = true := decide_eq_true c10
                clear c10
                by_cases c11 : 0 ≤ x9_1
                · rw [if_pos c11] at H
                  have c11b0 : decide (0 ≤ x9_1) = true := decide_eq_true c11
                  clear c11
                  by_cases c12 : 0 ≤ t482
                  · rw [if_pos c12] at H
                    have c12b0 : decide (0 ≤ t482) = true := decide_eq_true c12
                    clear c12
                    by_cases c13 : t482 < (l0.length : Int)
                    · rw [if_pos c13] at H
                      have c13b0 : decide (t482 < (l0.length : Int)) = true := decide_eq_true c13
                      clear c13
                      by_cases c14 : ((rd_T34 l0 x9_1).f1) = ((rd_T34 l0 t482).f0)
                      · rw [if_pos c14] at H
                        have c14b0 : (((rd_T34 l0 x9_1).f1) == ((rd_T34 l0 t482).f0)) = true := beq_iff_eq.mpr c14
                        have c14b1 : (((rd_T34 l0 x9_1).f1) != ((rd_T34 l0 t482).f0)) = false := bne_eq_false_iff_eq.mpr c14
                        clear c14
                        replace H := Option.bind_eq_some_iff.mp H
                        obtain ⟨t488, A150, H⟩ := H
                        replace H : (r10_List.l0 k1 l0 t482 t488 (wrap64 (x9_1 + 1))) = some (r1, r2) := H
                        have A15 := Aside0.mk A150
                        clear A150
                        have H' := Aside0.mk H
                        clear H
                        have p485 : 0 ≤ (x9_1 : Int) := of_decide_eq_true (by first | (with_reducible assumption) | assumption)
                        have q485 : x9_1 < (l0.length : Int) := of_decide_eq_true (by first | (with_reducible assumption) | assumption)
                        obtain ⟨ad485, e485, hx485_0, hx485_1, hx485_2, hx485_3, hx485_4⟩ := at_T34 HR0.out x9_1 p485 q485
                        (try rw [← Nbq7.out] at hx485_3)
                        obtain rfl : ad484 = ad485 := (by injection e485)
                        replace hx485_0 := (HB.out.cell (World.block_lt_of_cell? w _ hx485_0)).trans hx485_0
                        replace hx485_1 := (HB.out.cell (World.block_lt_of_cell? w _ hx485_1)).trans hx485_1
                        replace hx485_2 := (HB.out.cell (World.block_lt_of_cell? w _ hx485_2)).trans hx485_2
                        replace hx485_3 := (HB.out.cell (World.block_lt_of_cell? w _ hx485_3)).trans hx485_3
                        replace hx485_4 := (HB.out.cell (World.block_lt_of_cell? w _ hx485_4)).trans hx485_4
                        replace p485 := eq_true p485
                        replace q485 := eq_true q485
                        have p486 : 0 ≤ (t482 : Int) := of_decide_eq_true (by first | (with_reducible assumption) | assumption)
                        have q486 : t482 < (l0.length : Int) := of_decide_eq_true (by first | (with_reducible assumption) | assumption)
                        obtain ⟨ad486, e486, hx486_0, hx486_1, hx486_2, hx486_3, hx486_4⟩ := at_T34 HR0.out t482 p486 q486
                        (try rw [← Nbq7.out] at hx486_3)
                        obtain rfl : ad484 = ad486 := (by injection e486)
                        replace hx486_0 := (HB.out.cell (World.block_lt_of_cell? w _ hx486_0)).trans hx486_0
                        replace hx486_1 := (HB.out.cell (World.block_lt_of_cell? w _ hx486_1)).trans hx486_1
                        replace hx486_2 := (HB.out.cell (World.block_lt_of_cell? w _ hx486_2)).trans hx486_2
                        replace hx486_3 := (HB.out.cell (World.block_lt_of_cell? w _ hx486_3)).trans hx486_3
                        replace hx486_4 := (HB.out.cell (World.block_lt_of_cell? w _ hx486_4)).trans hx486_4
                        replace p486 := eq_true p486
                        replace q486 := eq_true q486
                        have p487 : 0 ≤ (x9_1 : Int) := of_decide_eq_true (by first | (with_reducible assumption) | assumption)
                        have q487 : x9_1 < (l0.length : Int) := of_decide_eq_true (by first | (with_reducible assumption) | assumption)
                        obtain ⟨ad487, e487, hx487_0, hx487_1, hx487_2, hx487_3, hx487_4⟩ := at_T34 HR0.out x9_1 p487 q487
                        (try rw [← Nbq7.out] at hx487_3)
                        obtain rfl : ad484 = ad487 := (by injection e487)
                        replace hx487_0 := (HB.out.cell (World.block_lt_of_cell? w _ hx487_0)).trans hx487_0
                        replace hx487_1 := (HB.out.cell (World.block_lt_of_cell? w _ hx487_1)).trans hx487_1
                        replace hx487_2 := (HB.out.cell (World.block_lt_of_cell? w _ hx487_2)).trans hx487_2
                        replace hx487_3 := (HB.out.cell (World.block_lt_of_cell? w _ hx487_3)).trans hx487_3
                        replace hx487_4 := (HB.out.cell (World.block_lt_of_cell? w _ hx487_4)).trans hx487_4
                        replace p487 := eq_true p487
                        replace q487 := eq_true q487
                        obtain ⟨Ao16, co16, eo16⟩ := Kd.R_slice HO_8.out
                        subst eo16
                        go_wp2_with (first | (go_at_call 60; (with_reducible refine (r10_put.calls k1 _ _ x8_1 ((rd_T34 l0 x9_1).f2) t488 _ ?side1 ?side2 A15.out).mono ?_); (case side1 => repeat (first | exact (Kd.R_reads' HO_8.out).2.2 | (with_reducible refine Kd.C_alloc ?_ _) | (with_reducible refine Kd.C_drewN ?_ _) | (with_reducible refine Kd.C_drew ?_))); (case side2 => exact (Kd.R_reads' HO_8.out).2.1); rintro e w17 ⟨v489, rfl, ho0, hb⟩; have n0_ := Aside0.mk (Kd.R_elder' (by (with_reducible repeat (first | apply Kd.R_alloc | apply Kd.R_drewN | apply Kd.R_drew)); exact HO_8.out) (Kd.R_base ho0) hb); have n1_ := Aside0.mk (Kd.R_lower (Kd.R_new' ho0 (Kd.R_lt (by (with_reducible repeat (first | apply Kd.R_alloc | apply Kd.R_drewN | apply Kd.R_drew)); exact HO_8.out))) (below_size (by repeat (first | (with_reducible first | exact HB.out | apply below_alloc | apply pw_below_drewN | apply below_drew1) | exact HB.out)))); have n2_ := Aside0.mk (below_step (by repeat (first | (with_reducible first | exact HB.out | apply below_alloc | apply pw_below_drewN | apply below_drew1) | exact HB.out)) hb); clear HO_8; clear HB; have HO_8 := n0_; have HO490 := n1_; have HB := n2_; clear n0_ n1_ n2_; (try clear hb); (try clear hb2); (try clear hk); (try clear hi); (try clear ho0)))
                        repeat (go_quiet (first | (go_at_call 60; (with_reducible refine (r10_put.calls k1 _ _ x8_1 ((rd_T34 l0 x9_1).f2) t488 _ ?side1 ?side2 A15.out).mono ?_); (case side1 => repeat (first | exact (Kd.R_reads' HO_8.out).2.2 | (with_reducible refine Kd.C_alloc ?_ _) | (with_reducible refine Kd.C_drewN ?_ _) | (with_reducible refine Kd.C_drew ?_))); (case side2 => exact (Kd.R_reads' HO_8.out).2.1); rintro e w17 ⟨v489, rfl, ho0, hb⟩; have n0_ := Aside0.mk (Kd.R_elder' (by (with_reducible repeat (first | apply Kd.R_alloc | apply Kd.R_drewN | apply Kd.R_drew)); exact HO_8.out) (Kd.R_base ho0) hb); have n1_ := Aside0.mk (Kd.R_lower (Kd.R_new' ho0 (Kd.R_lt (by (with_reducible repeat (first | apply Kd.R_alloc | apply Kd.R_drewN | apply Kd.R_drew)); exact HO_8.out))) (below_size (by repeat (first | (with_reducible first | exact HB.out | apply below_alloc | apply pw_below_drewN | apply below_drew1) | exact HB.out)))); have n2_ := Aside0.mk (below_step (by repeat (first | (with_reducible first | exact HB.out | apply below_alloc | apply pw_below_drewN | apply below_drew1) | exact HB.out)) hb); clear HO_8; clear HB; have HO_8 := n0_; have HO490 := n1_; have HB := n2_; clear n0_ n1_ n2_; (try clear hb); (try clear hb2); (try clear hk); (try clear hi); (try clear ho0))); try go_wp2_with (first | (go_at_call 60; (with_reducible refine (r10_put.calls k1 _ _ x8_1 ((rd_T34 l0 x9_1).f2) t488 _ ?side1 ?side2 A15.out).mono ?_); (case side1 => repeat (first | exact (Kd.R_reads' HO_8.out).2.2 | (with_reducible refine Kd.C_alloc ?_ _) | (with_reducible refine Kd.C_drewN ?_ _) | (with_reducible refine Kd.C_drew ?_))); (case side2 => exact (Kd.R_reads' HO_8.out).2.1); rintro e w17 ⟨v489, rfl, ho0, hb⟩; have n0_ := Aside0.mk (Kd.R_elder' (by (with_reducible repeat (first | apply Kd.R_alloc | apply Kd.R_drewN | apply Kd.R_drew)); exact HO_8.out) (Kd.R_base ho0) hb); have n1_ := Aside0.mk (Kd.R_lower (Kd.R_new' ho0 (Kd.R_lt (by (with_reducible repeat (first | apply Kd.R_alloc | apply Kd.R_drewN | apply Kd.R_drew)); exact HO_8.out))) (below_size (by repeat (first | (with_reducible first | exact HB.out | apply below_alloc | apply pw_below_drewN | apply below_drew1) | exact HB.out)))); have n2_ := Aside0.mk (below_step (by repeat (first | (with_reducible first | exact HB.out | apply below_alloc | apply pw_below_drewN | apply below_drew1) | exact HB.out)) hb); clear HO_8; clear HB; have HO_8 := n0_; have HO490 := n1_; have HB := n2_; clear n0_ n1_ n2_; (try clear hb); (try clear hb2); (try clear hk); (try clear hi); (try clear ho0))))
                        go_roundg k1
                        case measure => have := HK1.out; omega
                        case rel => exact ⟨(t488), (wrap64 (x9_1 + 1)), (by first | rfl | (simp; done) | (simp [*]; done)), H', ⟨by have := HK1.out; omega⟩, ⟨by (with_reducible repeat (first | apply Kd.R_alloc | apply Kd.R_drewN | apply Kd.R_drew)); exact Kd.R_mono HO490.out (fun _ hk => trivial)⟩, ⟨by repeat (first | (with_reducible first | exact HB.out | apply below_alloc | apply pw_below_drewN | apply below_drew1) | exact HB.out)⟩⟩
                      · rw [if_neg c14] at H
                        have c14b0 : (((rd_T34 l0 x9_1).f1) == ((rd_T34 l0 t482).f0)) = false := beq_eq_false_iff_ne.mpr c14
                        have c14b1 : (((rd_T34 l0 x9_1).f1) != ((rd_T34 l0 t482).f0)) = true := bne_iff_ne.mpr c14
                        have H' := Aside0.mk H
                        clear H
                        have p485 : 0 ≤ (x9_1 : Int) := of_decide_eq_true (by first | (with_reducible assumption) | assumption)
                        have q485 : x9_1 < (l0.length : Int) := of_decide_eq_true (by first | (with_reducible assumption) | assumption)
                        obtain ⟨ad485, e485, hx485_0, hx485_1, hx485_2, hx485_3, hx485_4⟩ := at_T34 HR0.out x9_1 p485 q485
                        (try rw [← Nbq7.out] at hx485_3)
                        obtain rfl : ad484 = ad485 := (by injection e485)
                        replace hx485_0 := (HB.out.cell (World.block_lt_of_cell? w _ hx485_0)).trans hx485_0
                        replace hx485_1 := (HB.out.cell (World.block_lt_of_cell? w _ hx485_1)).trans hx485_1
                        replace hx485_2 := (HB.out.cell (World.block_lt_of_cell? w _ hx485_2)).trans hx485_2
                        replace hx485_3 := (HB.out.cell (World.block_lt_of_cell? w _ hx485_3)).trans hx485_3
                        replace hx485_4 := (HB.out.cell (World.block_lt_of_cell? w _ hx485_4)).trans hx485_4
                        replace p485 := eq_true p485
                        replace q485 := eq_true q485
                        have p486 : 0 ≤ (t482 : Int) := of_decide_eq_true (by first | (with_reducible assumption) | assumption)
                        have q486 : t482 < (l0.length : Int) := of_decide_eq_true (by first | (with_reducible assumption) | assumption)
                        obtain ⟨ad486, e486, hx486_0, hx486_1, hx486_2, hx486_3, hx486_4⟩ := at_T34 HR0.out t482 p486 q486
                        (try rw [← Nbq7.out] at hx486_3)
                        obtain rfl : ad484 = ad486 := (by injection e486)
                        replace hx486_0 := (HB.out.cell (World.block_lt_of_cell? w _ hx486_0)).trans hx486_0
                        replace hx486_1 := (HB.out.cell (World.block_lt_of_cell? w _ hx486_1)).trans hx486_1
                        replace hx486_2 := (HB.out.cell (World.block_lt_of_cell? w _ hx486_2)).trans hx486_2
                        replace hx486_3 := (HB.out.cell (World.block_lt_of_cell? w _ hx486_3)).trans hx486_3
                        replace hx486_4 := (HB.out.cell (World.block_lt_of_cell? w _ hx486_4)).trans hx486_4
                        replace p486 := eq_true p486
                        replace q486 := eq_true q486
                        go_wp2
                        repeat (go_quiet (fail); try go_wp2)
                        go_roundg k1
                        case measure => have := HK1.out; omega
                        case rel => exact ⟨(x8_1), (wrap64 (x9_1 + 1)), (by first | rfl | (simp; done) | (simp [*]; done)), H', ⟨by have := HK1.out; omega⟩, ⟨by (with_reducible repeat (first | apply Kd.R_alloc | apply Kd.R_drewN | apply Kd.R_drew)); exact HO_8.out⟩, ⟨by repeat (first | (with_reducible first | exact HB.out | apply below_alloc | apply pw_below_drewN | apply below_drew1) | exact HB.out)⟩⟩
                    · rw [if_neg c13] at H
                      exact absurd H (by simp)
                  · rw [if_neg c12] at H
                    exact absurd H (by simp)
                · rw [if_neg c11] at H
                  exact absurd H (by simp)
              · rw [if_neg c10] at H
                have c10b0 : decide (x9_1 < (l0.length : Int)) = false := decide_eq_false c10
                clear c10
                simp only [Option.some.injEq, Prod.mk.injEq] at H
                obtain ⟨rfl, rfl⟩ := H
                go_wp2
                repeat (go_quiet (fail); try go_wp2)
                go_ret2
                exact ⟨_, by first | rfl | (simp [errW_none, errW_some] <;> rfl) | (simp [*, errW_none, errW_some] <;> rfl), by (with_reducible repeat (first | apply Kd.R_alloc | apply Kd.R_drewN | apply Kd.R_drew)); exact HO_8.out, by repeat (first | (with_reducible first | exact HB.out | apply below_alloc | apply pw_below_drewN | apply below_drew1) | exact HB.out)⟩
        · replace c8 := Bool.eq_false_iff.mpr c8
          subst c8
          have H1 : (some (([] : List ByteArray), 10)) = some (r1, r2) := by rw [if_neg (show ¬ (false = true) by decide)] at H; exact H
          clear H
          have H := H1
          clear H1
          simp only [Option.some.injEq, Prod.mk.injEq] at H
          obtain ⟨rfl, rfl⟩ := H
          go_enter Tryd.func31, Tryd.ntmps31
          go_wp2_with (first | (go_at_call 29; (with_reducible refine (r10_Find.calls k _ _ l0 a1 t482 t483 _ ?side1 ?side2 A3.out).mono ?_); (case side1 => repeat (first | exact HR0.out | (with_reducible refine Kd.C_alloc ?_ _) | (with_reducible refine Kd.C_drewN ?_ _) | (with_reducible refine Kd.C_drew ?_))); (case side2 => exact HC0.out); rintro e w18 ⟨rfl, hb⟩; have n0_ := Aside0.mk (below_step (by repeat (first | (with_reducible first | exact HB.out | apply below_alloc | apply pw_below_drewN | apply below_drew1) | exact HB.out)) hb); clear HB; have HB := n0_; clear n0_; (try clear hb); (try clear hb2); (try clear hk); (try clear hi); have p484 : 0 ≤ (t482 : Int) := of_decide_eq_true (by first | (with_reducible assumption) | assumption); have q484 : t482 < (l0.length : Int) := of_decide_eq_true (by first | (with_reducible assumption) | assumption); obtain ⟨ad484, e484, hx484_0, hx484_1, hx484_2, hx484_3, hx484_4⟩ := at_T34 HR0.out t482 p484 q484; (try rw [← Nbq7.out] at hx484_3); cases e484; replace hx484_0 := (HB.out.cell (World.block_lt_of_cell? w _ hx484_0)).trans hx484_0; replace hx484_1 := (HB.out.cell (World.block_lt_of_cell? w _ hx484_1)).trans hx484_1; replace hx484_2 := (HB.out.cell (World.block_lt_of_cell? w _ hx484_2)).trans hx484_2; replace hx484_3 := (HB.out.cell (World.block_lt_of_cell? w _ hx484_3)).trans hx484_3; replace hx484_4 := (HB.out.cell (World.block_lt_of_cell? w _ hx484_4)).trans hx484_4; replace p484 := eq_true p484; replace q484 := eq_true q484))
          repeat (go_quiet (first | (go_at_call 29; (with_reducible refine (r10_Find.calls k _ _ l0 a1 t482 t483 _ ?side1 ?side2 A3.out).mono ?_); (case side1 => repeat (first | exact HR0.out | (with_reducible refine Kd.C_alloc ?_ _) | (with_reducible refine Kd.C_drewN ?_ _) | (with_reducible refine Kd.C_drew ?_))); (case side2 => exact HC0.out); rintro e w18 ⟨rfl, hb⟩; have n0_ := Aside0.mk (below_step (by repeat (first | (with_reducible first | exact HB.out | apply below_alloc | apply pw_below_drewN | apply below_drew1) | exact HB.out)) hb); clear HB; have HB := n0_; clear n0_; (try clear hb); (try clear hb2); (try clear hk); (try clear hi); have p484 : 0 ≤ (t482 : Int) := of_decide_eq_true (by first | (with_reducible assumption) | assumption); have q484 : t482 < (l0.length : Int) := of_decide_eq_true (by first | (with_reducible assumption) | assumption); obtain ⟨ad484, e484, hx484_0, hx484_1, hx484_2, hx484_3, hx484_4⟩ := at_T34 HR0.out t482 p484 q484; (try rw [← Nbq7.out] at hx484_3); cases e484; replace hx484_0 := (HB.out.cell (World.block_lt_of_cell? w _ hx484_0)).trans hx484_0; replace hx484_1 := (HB.out.cell (World.block_lt_of_cell? w _ hx484_1)).trans hx484_1; replace hx484_2 := (HB.out.cell (World.block_lt_of_cell? w _ hx484_2)).trans hx484_2; replace hx484_3 := (HB.out.cell (World.block_lt_of_cell? w _ hx484_3)).trans hx484_3; replace hx484_4 := (HB.out.cell (World.block_lt_of_cell? w _ hx484_4)).trans hx484_4; replace p484 := eq_true p484; replace q484 := eq_true q484)); try go_wp2_with (first | (go_at_call 29; (with_reducible refine (r10_Find.calls k _ _ l0 a1 t482 t483 _ ?side1 ?side2 A3.out).mono ?_); (case side1 => repeat (first | exact HR0.out | (with_reducible refine Kd.C_alloc ?_ _) | (with_reducible refine Kd.C_drewN ?_ _) | (with_reducible refine Kd.C_drew ?_))); (case side2 => exact HC0.out); rintro e w18 ⟨rfl, hb⟩; have n0_ := Aside0.mk (below_step (by repeat (first | (with_reducible first | exact HB.out | apply below_alloc | apply pw_below_drewN | apply below_drew1) | exact HB.out)) hb); clear HB; have HB := n0_; clear n0_; (try clear hb); (try clear hb2); (try clear hk); (try clear hi); have p484 : 0 ≤ (t482 : Int) := of_decide_eq_true (by first | (with_reducible assumption) | assumption); have q484 : t482 < (l0.length : Int) := of_decide_eq_true (by first | (with_reducible assumption) | assumption); obtain ⟨ad484, e484, hx484_0, hx484_1, hx484_2, hx484_3, hx484_4⟩ := at_T34 HR0.out t482 p484 q484; (try rw [← Nbq7.out] at hx484_3); cases e484; replace hx484_0 := (HB.out.cell (World.block_lt_of_cell? w _ hx484_0)).trans hx484_0; replace hx484_1 := (HB.out.cell (World.block_lt_of_cell? w _ hx484_1)).trans hx484_1; replace hx484_2 := (HB.out.cell (World.block_lt_of_cell? w _ hx484_2)).trans hx484_2; replace hx484_3 := (HB.out.cell (World.block_lt_of_cell? w _ hx484_3)).trans hx484_3; replace hx484_4 := (HB.out.cell (World.block_lt_of_cell? w _ hx484_4)).trans hx484_4; replace p484 := eq_true p484; replace q484 := eq_true q484)))
          go_ret2
          exact ⟨_, by first | rfl | (simp [errW_none, errW_some] <;> rfl) | (simp [*, errW_none, errW_some] <;> rfl), by first | exact Kd.R_nil _ _ _ _ _ | exact Kd.N_nil _ _ _ _ _ | exact Kd.V_nil _ _ _ _ _ | exact Kd.Q_nil _ _ _ _ _ | exact Kd.S_nil _ _ _ _ _, by repeat (first | (with_reducible first | exact HB.out | apply below_alloc | apply pw_below_drewN | apply below_drew1) | exact HB.out)⟩
      · rw [if_neg c6] at H
        exact absurd H (by simp)
    · rw [if_neg c5] at H
      exact absurd H (by simp)
  · rw [if_neg c4] at H
    have c4b0 : (t483 == 0) = false := beq_eq_false_iff_ne.mpr c4
    have c4b1 : (t483 != 0) = true := bne_iff_ne.mpr c4
    simp only [Option.some.injEq, Prod.mk.injEq] at H
    obtain ⟨rfl, rfl⟩ := H
    go_enter Tryd.func31, Tryd.ntmps31
    go_wp2_with (first | (go_at_call 29; (with_reducible refine (r10_Find.calls k _ _ l0 a1 t482 t483 _ ?side1 ?side2 A3.out).mono ?_); (case side1 => repeat (first | exact HR0.out | (with_reducible refine Kd.C_alloc ?_ _) | (with_reducible refine Kd.C_drewN ?_ _) | (with_reducible refine Kd.C_drew ?_))); (case side2 => exact HC0.out); rintro e w19 ⟨rfl, hb⟩; have n0_ := Aside0.mk (below_step (by repeat (first | (with_reducible first | exact HB.out | apply below_alloc | apply pw_below_drewN | apply below_drew1) | exact HB.out)) hb); clear HB; have HB := n0_; clear n0_; (try clear hb); (try clear hb2); (try clear hk); (try clear hi)))
    repeat (go_quiet (first | (go_at_call 29; (with_reducible refine (r10_Find.calls k _ _ l0 a1 t482 t483 _ ?side1 ?side2 A3.out).mono ?_); (case side1 => repeat (first | exact HR0.out | (with_reducible refine Kd.C_alloc ?_ _) | (with_reducible refine Kd.C_drewN ?_ _) | (with_reducible refine Kd.C_drew ?_))); (case side2 => exact HC0.out); rintro e w19 ⟨rfl, hb⟩; have n0_ := Aside0.mk (below_step (by repeat (first | (with_reducible first | exact HB.out | apply below_alloc | apply pw_below_drewN | apply below_drew1) | exact HB.out)) hb); clear HB; have HB := n0_; clear n0_; (try clear hb); (try clear hb2); (try clear hk); (try clear hi))); try go_wp2_with (first | (go_at_call 29; (with_reducible refine (r10_Find.calls k _ _ l0 a1 t482 t483 _ ?side1 ?side2 A3.out).mono ?_); (case side1 => repeat (first | exact HR0.out | (with_reducible refine Kd.C_alloc ?_ _) | (with_reducible refine Kd.C_drewN ?_ _) | (with_reducible refine Kd.C_drew ?_))); (case side2 => exact HC0.out); rintro e w19 ⟨rfl, hb⟩; have n0_ := Aside0.mk (below_step (by repeat (first | (with_reducible first | exact HB.out | apply below_alloc | apply pw_below_drewN | apply below_drew1) | exact HB.out)) hb); clear HB; have HB := n0_; clear n0_; (try clear hb); (try clear hb2); (try clear hk); (try clear hi))))
    go_ret2
    exact ⟨_, by first | rfl | (simp [errW_none, errW_some] <;> rfl) | (simp [*, errW_none, errW_some] <;> rfl), by first | exact Kd.R_nil _ _ _ _ _ | exact Kd.N_nil _ _ _ _ _ | exact Kd.V_nil _ _ _ _ _ | exact Kd.Q_nil _ _ _ _ _ | exact Kd.S_nil _ _ _ _ _, by repeat (first | (with_reducible first | exact HB.out | apply below_alloc | apply pw_below_drewN | apply below_drew1) | exact HB.out)⟩

end Go.Proofs.YthbdgahmlggpmaaDoor.Q
