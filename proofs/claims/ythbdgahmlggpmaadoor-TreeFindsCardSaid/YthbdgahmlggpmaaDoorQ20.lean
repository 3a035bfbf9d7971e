-- Printed by wip/pr.py of this work, over the kit's print, with functions proved by hand in their places.
import Derived.Test.YthbdgahmlggpmaaDoorQ0
import Derived.Test.YthbdgahmlggpmaaDoorQ7
import Derived.Test.YthbdgahmlggpmaaDoorQ10
import Derived.Test.YthbdgahmlggpmaaDoorQ11
import Derived.Test.YthbdgahmlggpmaaDoorM13
namespace Go.Proofs.YthbdgahmlggpmaaDoor.Q
open Go.RowKit Go.Proofs.YthbdgahmlggpmaaDoorW.PrintWords Go.Proofs.YthbdgahmlggpmaaDoorW.PrintLast Go.Proofs.YthbdgahmlggpmaaDoorW.PrintMore
attribute [local go_sem] max2_int min2_int max_two min_two max_three min_three max_four min_four   -- for this text's walks alone
set_option linter.unusedVariables false
set_option linter.unusedSimpArgs false

/-! ### r10_Make: function 23 -/
def r10_Make.j0 : Nat → List (S34) → Int → Bool → Int → ByteArray → Bool → Option ((List (S34)) × Int)
  | 0, _, _, _, _, _, _ => none
  | k + 1, x0, x2, x3, x12, x14, x61 => if x61 = true then (some (([] : List (S34)), 16)) else (if x2 ≤ 1 then (some (([] : List (S34)), 1)) else ((r10_Get.f k x0 x2).bind fun t347 => (if t347 ≥ 0 then (some (([] : List (S34)), 1)) else (if 0 ≤ x12 then (if x12 < (x0.length : Int) then ((r10_With.f k x0 x2 ((rd_T34 x0 x12).f0) x14 x3 0).bind fun t349 => (some (t349, 0))) else (none)) else (none)))))
def r10_Make.f (k : Nat) (l0 : List (S34)) (a1 : ByteArray) (a2 : Int) (a3 : Bool) : Option ((List (S34)) × Int) := (r10_Right.f l0).bind fun t335 => (if t335 = true then ((r10_Split.f k a1).bind fun bt336 => (if bt336.2 = true then ((r10_Above.f k l0 bt336.1).bind fun bt340 => (if bt340.2 = 0 then (if 0 ≤ (wrap64 ((bt336.1.length : Int) - 1)) then (if (wrap64 ((bt336.1.length : Int) - 1)) < (bt336.1.length : Int) then (if 0 ≤ bt340.1 then (if bt340.1 < (l0.length : Int) then ((r10_Kid.f k l0 ((rd_T34 l0 bt340.1).f0) (rdOf ByteArray.empty bt336.1 (wrap64 ((bt336.1.length : Int) - 1)))).bind fun t344 => (if t344 ≥ 0 then (some (([] : List (S34)), 8)) else (if (l0.length : Int) = 40 then (r10_Make.j0 k l0 a2 a3 bt340.1 (rdOf ByteArray.empty bt336.1 (wrap64 ((bt336.1.length : Int) - 1))) true) else ((r10_Kids.f k l0 ((rd_T34 l0 bt340.1).f0)).bind fun t346 => (r10_Make.j0 k l0 a2 a3 bt340.1 (rdOf ByteArray.empty bt336.1 (wrap64 ((bt336.1.length : Int) - 1))) (t346 == 12)))))) else (none)) else (none)) else (none)) else (none)) else (some (([] : List (S34)), bt340.2)))) else (some (([] : List (S34)), 9)))) else (some (([] : List (S34)), 1)))
theorem r10_Make.mono_l : ∀ k, (∀ y0 y1 y2 y3 y4 y5, LeO (r10_Make.j0 k y0 y1 y2 y3 y4 y5) (r10_Make.j0 (k + 1) y0 y1 y2 y3 y4 y5))
  | 0 => fun _ _ _ _ _ _ r h => by simp [r10_Make.j0] at h
  | k + 1 => by
    have ih0 := r10_Make.mono_l k
    · intro y0 y1 y2 y3 y4 y5
      unfold r10_Make.j0
      repeat' first
      | (with_reducible exact ih0 _ _ _ _ _ _)
      | (with_reducible exact r10_Above.mono _ _ _)
      | (with_reducible exact r10_Get.mono _ _ _)
      | (with_reducible exact r10_Kid.mono _ _ _ _)
      | (with_reducible exact r10_Kids.mono _ _ _)
      | (with_reducible exact r10_Split.mono _ _)
      | (with_reducible exact r10_With.mono _ _ _ _ _ _ _)
      | (with_reducible exact LeO.refl _)
      | (with_reducible exact LeO.none _)
      | (with_reducible refine LeO.ite ?_ ?_)
      | (with_reducible refine LeO.bind ?_ (fun _ => ?_))
      | exact ih0 _ _ _ _ _ _
      | exact r10_Above.mono _ _ _
      | exact r10_Get.mono _ _ _
      | exact r10_Kid.mono _ _ _ _
      | exact r10_Kids.mono _ _ _
      | exact r10_Split.mono _ _
      | exact r10_With.mono _ _ _ _ _ _ _
      | exact LeO.none _
      | refine LeO.ite ?_ ?_
      | refine LeO.bind ?_ (fun _ => ?_)
theorem r10_Make.mono : ∀ a0 a1 a2 a3 k, LeO (r10_Make.f k a0 a1 a2 a3) (r10_Make.f (k + 1) a0 a1 a2 a3) := by
  intro a0 a1 a2 a3 k
  have ih0 := r10_Make.mono_l k
  unfold r10_Make.f
  repeat' first
      | (with_reducible exact ih0 _ _ _ _ _ _)
      | (with_reducible exact r10_Above.mono _ _ _)
      | (with_reducible exact r10_Get.mono _ _ _)
      | (with_reducible exact r10_Kid.mono _ _ _ _)
      | (with_reducible exact r10_Kids.mono _ _ _)
      | (with_reducible exact r10_Split.mono _ _)
      | (with_reducible exact r10_With.mono _ _ _ _ _ _ _)
      | (with_reducible exact LeO.refl _)
      | (with_reducible exact LeO.none _)
      | (with_reducible refine LeO.ite ?_ ?_)
      | (with_reducible refine LeO.bind ?_ (fun _ => ?_))
      | exact ih0 _ _ _ _ _ _
      | exact r10_Above.mono _ _ _
      | exact r10_Get.mono _ _ _
      | exact r10_Kid.mono _ _ _ _
      | exact r10_Kids.mono _ _ _
      | exact r10_Split.mono _ _
      | exact r10_With.mono _ _ _ _ _ _ _
      | exact LeO.none _
      | refine LeO.ite ?_ ?_
      | refine LeO.bind ?_ (fun _ => ?_)
set_option maxHeartbeats 8000000 in
set_option maxRecDepth 100000 in
theorem r10_Make.calls (k : Nat) (A0 : Option Addr) (c0 : Nat) (l0 : List (S34)) (a1 : ByteArray) (a2 : Int) (a3 : Bool) (r1 : List (S34)) (r2 : Int) (w : World) (hr0 : Kd.C k34 w A0 l0.length l0) (hc0 : l0.length ≤ c0) (h : r10_Make.f k l0 a1 a2 a3 = some (r1, r2)) :
    Calls Tryd.prog 23 #[.slice A0 l0.length c0, .string a1, .int .u32 a2, .bool a3] w fun e w' => ∃ v0_ : Value, e = .returned (.tuple #[v0_, .int .i64 r2]) ∧ Kd.R k34 34 w' w.heap.size (fun _ => True) v0_ r1 ∧ Below w.heap.size w w' := by
  have hu34 := Tryd.underlying34
  have HR0 := Aside0.mk hr0
  have HC0 := Aside0.mk hc0
  clear hr0 hc0
  have HB := Aside0.mk (Below.refl w.heap.size w)
  have H : ((r10_Right.f l0).bind fun t335 => (if t335 = true then ((r10_Split.f k a1).bind fun bt336 => (if bt336.2 = true then ((r10_Above.f k l0 bt336.1).bind fun bt340 => (if bt340.2 = 0 then (if 0 ≤ (wrap64 ((bt336.1.length : Int) - 1)) then (if (wrap64 ((bt336.1.length : Int) - 1)) < (bt336.1.length : Int) then (if 0 ≤ bt340.1 then (if bt340.1 < (l0.length : Int) then ((r10_Kid.f k l0 ((rd_T34 l0 bt340.1).f0) (rdOf ByteArray.empty bt336.1 (wrap64 ((bt336.1.length : Int) - 1)))).bind fun t344 => (if t344 ≥ 0 then (some (([] : List (S34)), 8)) else (if (l0.length : Int) = 40 then (r10_Make.j0 k l0 a2 a3 bt340.1 (rdOf ByteArray.empty bt336.1 (wrap64 ((bt336.1.length : Int) - 1))) true) else ((r10_Kids.f k l0 ((rd_T34 l0 bt340.1).f0)).bind fun t346 => (r10_Make.j0 k l0 a2 a3 bt340.1 (rdOf ByteArray.empty bt336.1 (wrap64 ((bt336.1.length : Int) - 1))) (t346 == 12)))))) else (none)) else (none)) else (none)) else (none)) else (some (([] : List (S34)), bt340.2)))) else (some (([] : List (S34)), 9)))) else (some (([] : List (S34)), 1)))) = some (r1, r2) := h
  clear h
  replace H := Option.bind_eq_some_iff.mp H
  obtain ⟨t335, A50, H⟩ := H
  replace H : (if t335 = true then ((r10_Split.f k a1).bind fun bt336 => (if bt336.2 = true then ((r10_Above.f k l0 bt336.1).bind fun bt340 => (if bt340.2 = 0 then (if 0 ≤ (wrap64 ((bt336.1.length : Int) - 1)) then (if (wrap64 ((bt336.1.length : Int) - 1)) < (bt336.1.length : Int) then (if 0 ≤ bt340.1 then (if bt340.1 < (l0.length : Int) then ((r10_Kid.f k l0 ((rd_T34 l0 bt340.1).f0) (rdOf ByteArray.empty bt336.1 (wrap64 ((bt336.1.length : Int) - 1)))).bind fun t344 => (if t344 ≥ 0 then (some (([] : List (S34)), 8)) else (if (l0.length : Int) = 40 then (r10_Make.j0 k l0 a2 a3 bt340.1 (rdOf ByteArray.empty bt336.1 (wrap64 ((bt336.1.length : Int) - 1))) true) else ((r10_Kids.f k l0 ((rd_T34 l0 bt340.1).f0)).bind fun t346 => (r10_Make.j0 k l0 a2 a3 bt340.1 (rdOf ByteArray.empty bt336.1 (wrap64 ((bt336.1.length : Int) - 1))) (t346 == 12)))))) else (none)) else (none)) else (none)) else (none)) else (some (([] : List (S34)), bt340.2)))) else (some (([] : List (S34)), 9)))) else (some (([] : List (S34)), 1))) = some (r1, r2) := H
  have A5 := Aside0.mk A50
  clear A50
  by_cases c6 : t335 = true
  · subst c6
    have H1 : ((r10_Split.f k a1).bind fun bt336 => (if bt336.2 = true then ((r10_Above.f k l0 bt336.1).bind fun bt340 => (if bt340.2 = 0 then (if 0 ≤ (wrap64 ((bt336.1.length : Int) - 1)) then (if (wrap64 ((bt336.1.length : Int) - 1)) < (bt336.1.length : Int) then (if 0 ≤ bt340.1 then (if bt340.1 < (l0.length : Int) then ((r10_Kid.f k l0 ((rd_T34 l0 bt340.1).f0) (rdOf ByteArray.empty bt336.1 (wrap64 ((bt336.1.length : Int) - 1)))).bind fun t344 => (if t344 ≥ 0 then (some (([] : List (S34)), 8)) else (if (l0.length : Int) = 40 then (r10_Make.j0 k l0 a2 a3 bt340.1 (rdOf ByteArray.empty bt336.1 (wrap64 ((bt336.1.length : Int) - 1))) true) else ((r10_Kids.f k l0 ((rd_T34 l0 bt340.1).f0)).bind fun t346 => (r10_Make.j0 k l0 a2 a3 bt340.1 (rdOf ByteArray.empty bt336.1 (wrap64 ((bt336.1.length : Int) - 1))) (t346 == 12)))))) else (none)) else (none)) else (none)) else (none)) else (some (([] : List (S34)), bt340.2)))) else (some (([] : List (S34)), 9)))) = some (r1, r2) := by rw [if_pos rfl] at H; exact H
    clear H
    have H := H1
    clear H1
    replace H := Option.bind_eq_some_iff.mp H
    obtain ⟨⟨t336, t337⟩, A70, H⟩ := H
    replace H : (if t337 = true then ((r10_Above.f k l0 t336).bind fun bt340 => (if bt340.2 = 0 then (if 0 ≤ (wrap64 ((t336.length : Int) - 1)) then (if (wrap64 ((t336.length : Int) - 1)) < (t336.length : Int) then (if 0 ≤ bt340.1 then (if bt340.1 < (l0.length : Int) then ((r10_Kid.f k l0 ((rd_T34 l0 bt340.1).f0) (rdOf ByteArray.empty t336 (wrap64 ((t336.length : Int) - 1)))).bind fun t344 => (if t344 ≥ 0 then (some (([] : List (S34)), 8)) else (if (l0.length : Int) = 40 then (r10_Make.j0 k l0 a2 a3 bt340.1 (rdOf ByteArray.empty t336 (wrap64 ((t336.length : Int) - 1))) true) else ((r10_Kids.f k l0 ((rd_T34 l0 bt340.1).f0)).bind fun t346 => (r10_Make.j0 k l0 a2 a3 bt340.1 (rdOf ByteArray.empty t336 (wrap64 ((t336.length : Int) - 1))) (t346 == 12)))))) else (none)) else (none)) else (none)) else (none)) else (some (([] : List (S34)), bt340.2)))) else (some (([] : List (S34)), 9))) = some (r1, r2) := H
    have A7 := Aside0.mk A70
    clear A70
    by_cases c8 : t337 = true
    · subst c8
      have H1 : ((r10_Above.f k l0 t336).bind fun bt340 => (if bt340.2 = 0 then (if 0 ≤ (wrap64 ((t336.length : Int) - 1)) then (if (wrap64 ((t336.length : Int) - 1)) < (t336.length : Int) then (if 0 ≤ bt340.1 then (if bt340.1 < (l0.length : Int) then ((r10_Kid.f k l0 ((rd_T34 l0 bt340.1).f0) (rdOf ByteArray.empty t336 (wrap64 ((t336.length : Int) - 1)))).bind fun t344 => (if t344 ≥ 0 then (some (([] : List (S34)), 8)) else (if (l0.length : Int) = 40 then (r10_Make.j0 k l0 a2 a3 bt340.1 (rdOf ByteArray.empty t336 (wrap64 ((t336.length : Int) - 1))) true) else ((r10_Kids.f k l0 ((rd_T34 l0 bt340.1).f0)).bind fun t346 => (r10_Make.j0 k l0 a2 a3 bt340.1 (rdOf ByteArray.empty t336 (wrap64 ((t336.length : Int) - 1))) (t346 == 12)))))) else (none)) else (none)) else (none)) else (none)) else (some (([] : List (S34)), bt340.2)))) = some (r1, r2) := by rw [if_pos rfl] at H; exact H
      clear H
      have H := H1
      clear H1
      replace H := Option.bind_eq_some_iff.mp H
      obtain ⟨⟨t340, t341⟩, A90, H⟩ := H
      replace H : (if t341 = 0 then (if 0 ≤ (wrap64 ((t336.length : Int) - 1)) then (if (wrap64 ((t336.length : Int) - 1)) < (t336.length : Int) then (if 0 ≤ t340 then (if t340 < (l0.length : Int) then ((r10_Kid.f k l0 ((rd_T34 l0 t340).f0) (rdOf ByteArray.empty t336 (wrap64 ((t336.length : Int) - 1)))).bind fun t344 => (if t344 ≥ 0 then (some (([] : List (S34)), 8)) else (if (l0.length : Int) = 40 then (r10_Make.j0 k l0 a2 a3 t340 (rdOf ByteArray.empty t336 (wrap64 ((t336.length : Int) - 1))) true) else ((r10_Kids.f k l0 ((rd_T34 l0 t340).f0)).bind fun t346 => (r10_Make.j0 k l0 a2 a3 t340 (rdOf ByteArray.empty t336 (wrap64 ((t336.length : Int) - 1))) (t346 == 12)))))) else (none)) else (none)) else (none)) else (none)) else (some (([] : List (S34)), t341))) = some (r1, r2) := H
      have A9 := Aside0.mk A90
      clear A90
      by_cases c10 : t341 = 0
      · rw [if_pos c10] at H
        have c10b0 : (t341 == 0) = true := beq_iff_eq.mpr c10
        have c10b1 : (t341 != 0) = false := bne_eq_false_iff_eq.mpr c10
        clear c10
        obtain ⟨ji11, hji11⟩ : ∃ j_ : Int, (wrap64 ((t336.length : Int) - 1)) = j_ := ⟨_, rfl⟩
        replace H : (if 0 ≤ (ji11) then (if (ji11) < (t336.length : Int) then (if 0 ≤ t340 then (if t340 < (l0.length : Int) then ((r10_Kid.f k l0 ((rd_T34 l0 t340).f0) (rdOf ByteArray.empty t336 (ji11))).bind fun t344 => (if t344 ≥ 0 then (some (([] : List (S34)), 8)) else (if (l0.length : Int) = 40 then (r10_Make.j0 k l0 a2 a3 t340 (rdOf ByteArray.empty t336 (ji11)) true) else ((r10_Kids.f k l0 ((rd_T34 l0 t340).f0)).bind fun t346 => (r10_Make.j0 k l0 a2 a3 t340 (rdOf ByteArray.empty t336 (ji11)) (t346 == 12)))))) else (none)) else (none)) else (none)) else (none)) = some (r1, r2) := by first | (rw [hji11] at H; exact H) | (simp only [hji11] at H ⊢; exact H)
        (try rw [hji11] at A5)
        (try rw [hji11] at A7)
        (try rw [hji11] at A9)
        have hji11w : (IntKind.i64.wrap ((t336.length : Int) - 1)) = ji11 := (i64_w _).trans hji11
        by_cases c12 : 0 ≤ (ji11)
        · rw [if_pos c12] at H
          have c12b0 : decide (0 ≤ (ji11)) = true := decide_eq_true c12
          clear c12
          by_cases c13 : (ji11) < (t336.length : Int)
          · rw [if_pos c13] at H
            have c13b0 : decide ((ji11) < (t336.length : Int)) = true := decide_eq_true c13
            clear c13
            by_cases c14 : 0 ≤ t340
            · rw [if_pos c14] at H
              have c14b0 : decide (0 ≤ t340) = true := decide_eq_true c14
              clear c14
              by_cases c15 : t340 < (l0.length : Int)
              · rw [if_pos c15] at H
                have c15b0 : decide (t340 < (l0.length : Int)) = true := decide_eq_true c15
                clear c15
                replace H := Option.bind_eq_some_iff.mp H
                obtain ⟨t344, A160, H⟩ := H
                replace H : (if t344 ≥ 0 then (some (([] : List (S34)), 8)) else (if (l0.length : Int) = 40 then (r10_Make.j0 k l0 a2 a3 t340 (rdOf ByteArray.empty t336 (ji11)) true) else ((r10_Kids.f k l0 ((rd_T34 l0 t340).f0)).bind fun t346 => (r10_Make.j0 k l0 a2 a3 t340 (rdOf ByteArray.empty t336 (ji11)) (t346 == 12))))) = some (r1, r2) := H
                have A16 := Aside0.mk A160
                clear A160
                by_cases c17 : t344 ≥ 0
                · rw [if_pos c17] at H
                  have c17b0 : decide (0 ≤ t344) = true := decide_eq_true c17
                  clear c17
                  simp only [Option.some.injEq, Prod.mk.injEq] at H
                  obtain ⟨rfl, rfl⟩ := H
                  go_enter Tryd.func23, Tryd.ntmps23
                  go_wp2_with (first | ((with_reducible refine gate_callee (f := 16) rfl ?_); refine goesL_ (some 16) rfl rfl Tryd.func16 (by kernel_rfl) rfl #[.slice A0 l0.length c0] rfl (by (try simp only [List.map_toArray, List.map_cons, List.map_nil]); first | done | rfl | (simp only [List.length_drop, List.length_take]; rfl)) ?_; (with_reducible refine (r10_Right.calls _ _ l0 true _ ?side1 ?side2 A5.out).mono ?_); (case side1 => repeat (first | exact HR0.out | (with_reducible refine Kd.C_alloc ?_ _) | (with_reducible refine Kd.C_drewN ?_ _) | (with_reducible refine Kd.C_drew ?_))); (case side2 => exact HC0.out); rintro e w18 ⟨rfl, hb⟩; refine ⟨_, rfl, ?_⟩; have n0_ := Aside0.mk (below_step (by repeat (first | (with_reducible first | exact HB.out | apply below_alloc | apply pw_below_drewN | apply below_drew1) | exact HB.out)) hb); clear HB; have HB := n0_; clear n0_; (try clear hb); (try clear hb2); (try clear hk); (try clear hi)) | ((with_reducible refine gate_callee (f := 28) rfl ?_); refine goesL_ (some 20) rfl rfl Tryd.func28 (by kernel_rfl) rfl #[.string a1] rfl (by (try simp only [List.map_toArray, List.map_cons, List.map_nil]); first | done | rfl | (simp only [List.length_drop, List.length_take]; rfl)) ?_; (with_reducible refine (r10_Split.calls k a1 t336 true _ A7.out).mono ?_); rintro e w19 ⟨v338, rfl, ho0, hb⟩; refine ⟨_, rfl, ?_⟩; have n0_ := Aside0.mk (Kd.R_lower ho0 (below_size (by repeat (first | (with_reducible first | exact HB.out | apply below_alloc | apply pw_below_drewN | apply below_drew1) | exact HB.out)))); have n1_ := Aside0.mk (below_step (by repeat (first | (with_reducible first | exact HB.out | apply below_alloc | apply pw_below_drewN | apply below_drew1) | exact HB.out)) hb); clear HB; have HO339 := n0_; have HB := n1_; clear n0_ n1_; (try clear hb); (try clear hb2); (try clear hk); (try clear hi); (try clear ho0); obtain ⟨Ao20, co20, eo20⟩ := Kd.R_slice HO339.out; subst eo20) | ((with_reducible refine gate_callee (f := 43) rfl ?_); refine goesL_ (some 28) rfl rfl Tryd.func43 (by kernel_rfl) rfl #[.slice A0 l0.length c0, .slice Ao20 t336.length co20] rfl (by (try simp only [List.map_toArray, List.map_cons, List.map_nil]); first | done | rfl | (simp only [List.length_drop, List.length_take]; rfl)) ?_; (with_reducible refine (r10_Above.calls k _ _ l0 _ _ t336 t340 t341 _ ?side1 ?side2 ?side3 ?side4 A9.out).mono ?_); (case side1 => repeat (first | exact (Kd.C_below HR0.out HB.out) | (with_reducible refine Kd.C_alloc ?_ _) | (with_reducible refine Kd.C_drewN ?_ _) | (with_reducible refine Kd.C_drew ?_))); (case side2 => exact HC0.out); (case side3 => repeat (first | exact (Kd.R_reads' HO339.out).2.2 | (with_reducible refine Kd.C_alloc ?_ _) | (with_reducible refine Kd.C_drewN ?_ _) | (with_reducible refine Kd.C_drew ?_))); (case side4 => exact (Kd.R_reads' HO339.out).2.1); rintro e w' ⟨rfl, ⟨nd, rfl⟩⟩; refine ⟨_, rfl, ?_⟩; have p342 : 0 ≤ ((ji11) : Int) := of_decide_eq_true (by first | (with_reducible assumption) | assumption); have q342 : (ji11) < (t336.length : Int) := of_decide_eq_true (by first | (with_reducible assumption) | assumption); obtain ⟨ad342, e342, hx342_0⟩ := Kd.at_string (Kd.R_reads' HO339.out).2.2 (ji11) p342 q342; cases e342; replace p342 := eq_true p342; replace q342 := eq_true q342; have p343 : 0 ≤ (t340 : Int) := of_decide_eq_true (by first | (with_reducible assumption) | assumption); have q343 : t340 < (l0.length : Int) := of_decide_eq_true (by first | (with_reducible assumption) | assumption); obtain ⟨ad343, e343, hx343_0, hx343_1, hx343_2, hx343_3, hx343_4⟩ := at_T34 HR0.out t340 p343 q343; cases e343; replace hx343_0 := (HB.out.cell (World.block_lt_of_cell? w _ hx343_0)).trans hx343_0; replace hx343_1 := (HB.out.cell (World.block_lt_of_cell? w _ hx343_1)).trans hx343_1; replace hx343_2 := (HB.out.cell (World.block_lt_of_cell? w _ hx343_2)).trans hx343_2; replace hx343_3 := (HB.out.cell (World.block_lt_of_cell? w _ hx343_3)).trans hx343_3; replace hx343_4 := (HB.out.cell (World.block_lt_of_cell? w _ hx343_4)).trans hx343_4; replace p343 := eq_true p343; replace q343 := eq_true q343) | ((with_reducible refine gate_callee (f := 45) rfl ?_); refine goesL_ (some 47) rfl rfl Tryd.func45 (by kernel_rfl) rfl #[.slice (some ad343) l0.length c0, .int .u32 ((rd_T34 l0 t340).f0), .string (rdOf ByteArray.empty t336 (ji11))] rfl (by (try simp only [List.map_toArray, List.map_cons, List.map_nil]); first | done | (simp only [hji11]; rfl) | rfl | (simp only [List.length_drop, List.length_take]; rfl)) ?_; (with_reducible refine (r10_Kid.calls k _ _ l0 ((rd_T34 l0 t340).f0) (rdOf ByteArray.empty t336 (ji11)) t344 _ ?side1 ?side2 A16.out).mono ?_); (case side1 => repeat (first | exact (Kd.C_below HR0.out (by repeat (first | (with_reducible first | exact HB.out | apply below_alloc | apply pw_below_drewN | apply below_drew1) | exact HB.out))) | (with_reducible refine Kd.C_alloc ?_ _) | (with_reducible refine Kd.C_drewN ?_ _) | (with_reducible refine Kd.C_drew ?_))); (case side2 => exact HC0.out); rintro e w' ⟨rfl, ⟨nd, rfl⟩⟩; refine ⟨_, rfl, ?_⟩))
                  go_ret2
                  exact ⟨_, by first | rfl | (simp [errW_none, errW_some] <;> rfl) | (simp only [← hji11]; first | rfl | (simp [errW_none, errW_some] <;> rfl)) | (simp [*, errW_none, errW_some] <;> rfl), by first | exact Kd.R_nil _ _ _ _ _ | exact Kd.N_nil _ _ _ _ _ | exact Kd.V_nil _ _ _ _ _ | exact Kd.Q_nil _ _ _ _ _ | exact Kd.S_nil _ _ _ _ _, by repeat (first | (with_reducible first | exact HB.out | apply below_alloc | apply pw_below_drewN | apply below_drew1) | exact HB.out)⟩
                · rw [if_neg c17] at H
                  have c17b0 : decide (0 ≤ t344) = false := decide_eq_false c17
                  clear c17
                  have HC21 := Aside0.mk H
                  clear H
                  go_enter Tryd.func23, Tryd.ntmps23
                  go_upto_region 12 with (first | ((with_reducible refine gate_callee (f := 16) rfl ?_); refine goesL_ (some 16) rfl rfl Tryd.func16 (by kernel_rfl) rfl #[.slice A0 l0.length c0] rfl (by (try simp only [List.map_toArray, List.map_cons, List.map_nil]); first | done | rfl | (simp only [List.length_drop, List.length_take]; rfl)) ?_; (with_reducible refine (r10_Right.calls _ _ l0 true _ ?side1 ?side2 A5.out).mono ?_); (case side1 => repeat (first | exact HR0.out | (with_reducible refine Kd.C_alloc ?_ _) | (with_reducible refine Kd.C_drewN ?_ _) | (with_reducible refine Kd.C_drew ?_))); (case side2 => exact HC0.out); rintro e w22 ⟨rfl, hb⟩; refine ⟨_, rfl, ?_⟩; have n0_ := Aside0.mk (below_step (by repeat (first | (with_reducible first | exact HB.out | apply below_alloc | apply pw_below_drewN | apply below_drew1) | exact HB.out)) hb); clear HB; have HB := n0_; clear n0_; (try clear hb); (try clear hb2); (try clear hk); (try clear hi)) | ((with_reducible refine gate_callee (f := 28) rfl ?_); refine goesL_ (some 20) rfl rfl Tryd.func28 (by kernel_rfl) rfl #[.string a1] rfl (by (try simp only [List.map_toArray, List.map_cons, List.map_nil]); first | done | rfl | (simp only [List.length_drop, List.length_take]; rfl)) ?_; (with_reducible refine (r10_Split.calls k a1 t336 true _ A7.out).mono ?_); rintro e w23 ⟨v338, rfl, ho0, hb⟩; refine ⟨_, rfl, ?_⟩; have n0_ := Aside0.mk (Kd.R_lower ho0 (below_size (by repeat (first | (with_reducible first | exact HB.out | apply below_alloc | apply pw_below_drewN | apply below_drew1) | exact HB.out)))); have n1_ := Aside0.mk (below_step (by repeat (first | (with_reducible first | exact HB.out | apply below_alloc | apply pw_below_drewN | apply below_drew1) | exact HB.out)) hb); clear HB; have HO339 := n0_; have HB := n1_; clear n0_ n1_; (try clear hb); (try clear hb2); (try clear hk); (try clear hi); (try clear ho0); obtain ⟨Ao24, co24, eo24⟩ := Kd.R_slice HO339.out; subst eo24) | ((with_reducible refine gate_callee (f := 43) rfl ?_); refine goesL_ (some 28) rfl rfl Tryd.func43 (by kernel_rfl) rfl #[.slice A0 l0.length c0, .slice Ao24 t336.length co24] rfl (by (try simp only [List.map_toArray, List.map_cons, List.map_nil]); first | done | rfl | (simp only [List.length_drop, List.length_take]; rfl)) ?_; (with_reducible refine (r10_Above.calls k _ _ l0 _ _ t336 t340 t341 _ ?side1 ?side2 ?side3 ?side4 A9.out).mono ?_); (case side1 => repeat (first | exact (Kd.C_below HR0.out HB.out) | (with_reducible refine Kd.C_alloc ?_ _) | (with_reducible refine Kd.C_drewN ?_ _) | (with_reducible refine Kd.C_drew ?_))); (case side2 => exact HC0.out); (case side3 => repeat (first | exact (Kd.R_reads' HO339.out).2.2 | (with_reducible refine Kd.C_alloc ?_ _) | (with_reducible refine Kd.C_drewN ?_ _) | (with_reducible refine Kd.C_drew ?_))); (case side4 => exact (Kd.R_reads' HO339.out).2.1); rintro e w' ⟨rfl, ⟨nd, rfl⟩⟩; refine ⟨_, rfl, ?_⟩; have p342 : 0 ≤ ((ji11) : Int) := of_decide_eq_true (by first | (with_reducible assumption) | assumption); have q342 : (ji11) < (t336.length : Int) := of_decide_eq_true (by first | (with_reducible assumption) | assumption); obtain ⟨ad342, e342, hx342_0⟩ := Kd.at_string (Kd.R_reads' HO339.out).2.2 (ji11) p342 q342; cases e342; replace p342 := eq_true p342; replace q342 := eq_true q342; have p343 : 0 ≤ (t340 : Int) := of_decide_eq_true (by first | (with_reducible assumption) | assumption); have q343 : t340 < (l0.length : Int) := of_decide_eq_true (by first | (with_reducible assumption) | assumption); obtain ⟨ad343, e343, hx343_0, hx343_1, hx343_2, hx343_3, hx343_4⟩ := at_T34 HR0.out t340 p343 q343; cases e343; replace hx343_0 := (HB.out.cell (World.block_lt_of_cell? w _ hx343_0)).trans hx343_0; replace hx343_1 := (HB.out.cell (World.block_lt_of_cell? w _ hx343_1)).trans hx343_1; replace hx343_2 := (HB.out.cell (World.block_lt_of_cell? w _ hx343_2)).trans hx343_2; replace hx343_3 := (HB.out.cell (World.block_lt_of_cell? w _ hx343_3)).trans hx343_3; replace hx343_4 := (HB.out.cell (World.block_lt_of_cell? w _ hx343_4)).trans hx343_4; replace p343 := eq_true p343; replace q343 := eq_true q343) | ((with_reducible refine gate_callee (f := 45) rfl ?_); refine goesL_ (some 47) rfl rfl Tryd.func45 (by kernel_rfl) rfl #[.slice (some ad343) l0.length c0, .int .u32 ((rd_T34 l0 t340).f0), .string (rdOf ByteArray.empty t336 (ji11))] rfl (by (try simp only [List.map_toArray, List.map_cons, List.map_nil]); first | done | (simp only [hji11]; rfl) | rfl | (simp only [List.length_drop, List.length_take]; rfl)) ?_; (with_reducible refine (r10_Kid.calls k _ _ l0 ((rd_T34 l0 t340).f0) (rdOf ByteArray.empty t336 (ji11)) t344 _ ?side1 ?side2 A16.out).mono ?_); (case side1 => repeat (first | exact (Kd.C_below HR0.out (by repeat (first | (with_reducible first | exact HB.out | apply below_alloc | apply pw_below_drewN | apply below_drew1) | exact HB.out))) | (with_reducible refine Kd.C_alloc ?_ _) | (with_reducible refine Kd.C_drewN ?_ _) | (with_reducible refine Kd.C_drew ?_))); (case side2 => exact HC0.out); rintro e w' ⟨rfl, ⟨nd, rfl⟩⟩; refine ⟨_, rfl, ?_⟩))
                  (try simp only [Act.put, List.setIfInBounds_toArray, List.set_cons_zero, List.set_cons_succ])
                  go_cut [61] (fun v61 wc => ∃ (kq : Nat) (x61_20 : Bool), v61 = .bool x61_20 ∧ Aside0 (r10_Make.j0 kq l0 a2 a3 t340 (rdOf ByteArray.empty t336 (ji11)) x61_20 = some (r1, r2)) ∧ Aside0 (kq ≤ k) ∧ Aside0 (Below w.heap.size w wc))
                  case first =>
                    have H := HC21.out
                    clear HC21
                    by_cases c25 : (l0.length : Int) = 40
                    · rw [if_pos c25] at H
                      have c25b0 : ((l0.length : Int) == 40) = true := beq_iff_eq.mpr c25
                      have c25b1 : ((l0.length : Int) != 40) = false := bne_eq_false_iff_eq.mpr c25
                      clear c25
                      (first | rw [c25b0] | (simp only [i64_w, i32_w]; rw [c25b0]) | skip)
                      have H' := Aside0.mk H
                      clear H
                      go_wp2
                      go_meet
                      case rel => exact ⟨_, (true), (by first | rfl | (simp; done) | (simp [*]; done)), H', ⟨by first | omega | exact Nat.le_refl _⟩, ⟨by repeat (first | (with_reducible first | exact HB.out | apply below_alloc | apply pw_below_drewN | apply below_drew1) | exact HB.out)⟩⟩
                    · rw [if_neg c25] at H
                      have c25b0 : ((l0.length : Int) == 40) = false := beq_eq_false_iff_ne.mpr c25
                      have c25b1 : ((l0.length : Int) != 40) = true := bne_iff_ne.mpr c25
                      (first | rw [c25b0] | (simp only [i64_w, i32_w]; rw [c25b0]) | skip)
                      replace H := Option.bind_eq_some_iff.mp H
                      obtain ⟨t346, A260, H⟩ := H
                      replace H : (r10_Make.j0 k l0 a2 a3 t340 (rdOf ByteArray.empty t336 (ji11)) (t346 == 12)) = some (r1, r2) := H
                      have A26 := Aside0.mk A260
                      clear A260
                      have H' := Aside0.mk H
                      clear H
                      have p345 : 0 ≤ (t340 : Int) := of_decide_eq_true (by first | (with_reducible assumption) | assumption)
                      have q345 : t340 < (l0.length : Int) := of_decide_eq_true (by first | (with_reducible assumption) | assumption)
                      obtain ⟨ad345, e345, hx345_0, hx345_1, hx345_2, hx345_3, hx345_4⟩ := at_T34 HR0.out t340 p345 q345
                      obtain rfl : ad343 = ad345 := (by injection e345)
                      replace hx345_0 := (HB.out.cell (World.block_lt_of_cell? w _ hx345_0)).trans hx345_0
                      replace hx345_1 := (HB.out.cell (World.block_lt_of_cell? w _ hx345_1)).trans hx345_1
                      replace hx345_2 := (HB.out.cell (World.block_lt_of_cell? w _ hx345_2)).trans hx345_2
                      replace hx345_3 := (HB.out.cell (World.block_lt_of_cell? w _ hx345_3)).trans hx345_3
                      replace hx345_4 := (HB.out.cell (World.block_lt_of_cell? w _ hx345_4)).trans hx345_4
                      replace p345 := eq_true p345
                      replace q345 := eq_true q345
                      go_wp2_with (first | (go_at_call 46; (with_reducible refine (r10_Kids.calls k _ _ l0 ((rd_T34 l0 t340).f0) t346 _ ?side1 ?side2 A26.out).mono ?_); (case side1 => repeat (first | exact (Kd.C_below HR0.out HB.out) | (with_reducible refine Kd.C_alloc ?_ _) | (with_reducible refine Kd.C_drewN ?_ _) | (with_reducible refine Kd.C_drew ?_))); (case side2 => exact HC0.out); rintro e w' ⟨rfl, ⟨nd, rfl⟩⟩))
                      go_meet
                      case rel => exact ⟨_, ((t346 == 12)), (by first | rfl | (simp; done) | (simp [*]; done)), H', ⟨by first | omega | exact Nat.le_refl _⟩, ⟨by repeat (first | (with_reducible first | exact HB.out | apply below_alloc | apply pw_below_drewN | apply below_drew1) | exact HB.out)⟩⟩
                  case rest =>
                    clear HC21
                    try clear c1
                    try clear c2
                    try clear p2
                    try clear p3
                    try clear q3
                    try clear hx3
                    try clear c4
                    try clear c6
                    try clear p6
                    try clear c8
                    try clear c10
                    try clear c10b0
                    try clear c10b1
                    try clear c12
                    try clear c12b0
                    try clear c13
                    try clear c13b0
                    try clear c14
                    try clear c14b0
                    try clear c15
                    try clear c15b0
                    try clear c16
                    try clear c17
                    try clear c17b0
                    try clear c23
                    try clear c25
                    try clear c25b0
                    try clear c25b1
                    try clear hx342_0
                    try clear hx343_0
                    try clear hx343_1
                    try clear hx343_2
                    try clear hx343_3
                    try clear hx343_4
                    try clear hx345_0
                    try clear hx345_1
                    try clear hx345_2
                    try clear hx345_3
                    try clear hx345_4
                    try clear p342
                    try clear p343
                    try clear p345
                    try clear q342
                    try clear q343
                    try clear q345
                    obtain ⟨kq, x61_20, rfl, HA, HJ20, HB⟩ := hcut
                    cases kq with
                    | zero => exact absurd HA.out (by simp [r10_Make.j0])
                    | succ kj20 =>
                      have H := HA.out
                      clear HA
                      simp only [r10_Make.j0] at H
                      by_cases c27 : x61_20 = true
                      · subst c27
                        have H1 : (some (([] : List (S34)), 16)) = some (r1, r2) := by rw [if_pos rfl] at H; exact H
                        clear H
                        have H := H1
                        clear H1
                        simp only [Option.some.injEq, Prod.mk.injEq] at H
                        obtain ⟨rfl, rfl⟩ := H
                        go_wp2
                        go_ret2
                        exact ⟨_, by first | rfl | (simp [errW_none, errW_some] <;> rfl) | (simp only [← hji11]; first | rfl | (simp [errW_none, errW_some] <;> rfl)) | (simp [*, errW_none, errW_some] <;> rfl), by first | exact Kd.R_nil _ _ _ _ _ | exact Kd.N_nil _ _ _ _ _ | exact Kd.V_nil _ _ _ _ _ | exact Kd.Q_nil _ _ _ _ _ | exact Kd.S_nil _ _ _ _ _, by repeat (first | (with_reducible first | exact HB.out | apply below_alloc | apply pw_below_drewN | apply below_drew1) | exact HB.out)⟩
                      · replace c27 := Bool.eq_false_iff.mpr c27
                        subst c27
                        have H1 : (if a2 ≤ 1 then (some (([] : List (S34)), 1)) else ((r10_Get.f kj20 l0 a2).bind fun t347 => (if t347 ≥ 0 then (some (([] : List (S34)), 1)) else (if 0 ≤ t340 then (if t340 < (l0.length : Int) then ((r10_With.f kj20 l0 a2 ((rd_T34 l0 t340).f0) (rdOf ByteArray.empty t336 (ji11)) a3 0).bind fun t349 => (some (t349, 0))) else (none)) else (none))))) = some (r1, r2) := by rw [if_neg (show ¬ (false = true) by decide)] at H; exact H
                        clear H
                        have H := H1
                        clear H1
                        by_cases c28 : a2 ≤ 1
                        · rw [if_pos c28] at H
                          have c28b0 : decide (a2 ≤ 1) = true := decide_eq_true c28
                          clear c28
                          simp only [Option.some.injEq, Prod.mk.injEq] at H
                          obtain ⟨rfl, rfl⟩ := H
                          go_wp2
                          go_ret2
                          exact ⟨_, by first | rfl | (simp [errW_none, errW_some] <;> rfl) | (simp only [← hji11]; first | rfl | (simp [errW_none, errW_some] <;> rfl)) | (simp [*, errW_none, errW_some] <;> rfl), by first | exact Kd.R_nil _ _ _ _ _ | exact Kd.N_nil _ _ _ _ _ | exact Kd.V_nil _ _ _ _ _ | exact Kd.Q_nil _ _ _ _ _ | exact Kd.S_nil _ _ _ _ _, by repeat (first | (with_reducible first | exact HB.out | apply below_alloc | apply pw_below_drewN | apply below_drew1) | exact HB.out)⟩
                        · rw [if_neg c28] at H
                          have c28b0 : decide (a2 ≤ 1) = false := decide_eq_false c28
                          clear c28
                          replace H := Option.bind_eq_some_iff.mp H
                          obtain ⟨t347, A290, H⟩ := H
                          replace H : (if t347 ≥ 0 then (some (([] : List (S34)), 1)) else (if 0 ≤ t340 then (if t340 < (l0.length : Int) then ((r10_With.f kj20 l0 a2 ((rd_T34 l0 t340).f0) (rdOf ByteArray.empty t336 (ji11)) a3 0).bind fun t349 => (some (t349, 0))) else (none)) else (none))) = some (r1, r2) := H
                          have A29 := Aside0.mk A290
                          clear A290
                          by_cases c30 : t347 ≥ 0
                          · rw [if_pos c30] at H
                            have c30b0 : decide (0 ≤ t347) = true := decide_eq_true c30
                            clear c30
                            simp only [Option.some.injEq, Prod.mk.injEq] at H
                            obtain ⟨rfl, rfl⟩ := H
                            go_wp2_with (first | (go_at_call 18; (with_reducible refine (r10_Get.calls kj20 _ _ l0 a2 t347 _ ?side1 ?side2 A29.out).mono ?_); (case side1 => repeat (first | exact (Kd.C_below HR0.out HB.out) | (with_reducible refine Kd.C_alloc ?_ _) | (with_reducible refine Kd.C_drewN ?_ _) | (with_reducible refine Kd.C_drew ?_))); (case side2 => exact HC0.out); rintro e w' ⟨rfl, ⟨nd, rfl⟩⟩))
                            go_ret2
                            exact ⟨_, by first | rfl | (simp [errW_none, errW_some] <;> rfl) | (simp only [← hji11]; first | rfl | (simp [errW_none, errW_some] <;> rfl)) | (simp [*, errW_none, errW_some] <;> rfl), by first | exact Kd.R_nil _ _ _ _ _ | exact Kd.N_nil _ _ _ _ _ | exact Kd.V_nil _ _ _ _ _ | exact Kd.Q_nil _ _ _ _ _ | exact Kd.S_nil _ _ _ _ _, by repeat (first | (with_reducible first | exact HB.out | apply below_alloc | apply pw_below_drewN | apply below_drew1) | exact HB.out)⟩
                          · rw [if_neg c30] at H
                            have c30b0 : decide (0 ≤ t347) = false := decide_eq_false c30
                            clear c30
                            by_cases c31 : 0 ≤ t340
                            · rw [if_pos c31] at H
                              have c31b0 : decide (0 ≤ t340) = true := decide_eq_true c31
                              clear c31
                              by_cases c32 : t340 < (l0.length : Int)
                              · rw [if_pos c32] at H
                                have c32b0 : decide (t340 < (l0.length : Int)) = true := decide_eq_true c32
                                clear c32
                                replace H := Option.bind_eq_some_iff.mp H
                                obtain ⟨t349, A330, H⟩ := H
                                replace H : (some (t349, 0)) = some (r1, r2) := H
                                have A33 := Aside0.mk A330
                                clear A330
                                simp only [Option.some.injEq, Prod.mk.injEq] at H
                                obtain ⟨rfl, rfl⟩ := H
                                go_wp2_with (first | (go_at_call 18; (with_reducible refine (r10_Get.calls kj20 _ _ l0 a2 t347 _ ?side1 ?side2 A29.out).mono ?_); (case side1 => repeat (first | exact (Kd.C_below HR0.out HB.out) | (with_reducible refine Kd.C_alloc ?_ _) | (with_reducible refine Kd.C_drewN ?_ _) | (with_reducible refine Kd.C_drew ?_))); (case side2 => exact HC0.out); rintro e w' ⟨rfl, ⟨nd, rfl⟩⟩; have p348 : 0 ≤ (t340 : Int) := of_decide_eq_true (by first | (with_reducible assumption) | assumption); have q348 : t340 < (l0.length : Int) := of_decide_eq_true (by first | (with_reducible assumption) | assumption); obtain ⟨ad348, e348, hx348_0, hx348_1, hx348_2, hx348_3, hx348_4⟩ := at_T34 HR0.out t340 p348 q348; obtain rfl : ad343 = ad348 := (by injection e348); replace hx348_0 := (HB.out.cell (World.block_lt_of_cell? w _ hx348_0)).trans hx348_0; replace hx348_1 := (HB.out.cell (World.block_lt_of_cell? w _ hx348_1)).trans hx348_1; replace hx348_2 := (HB.out.cell (World.block_lt_of_cell? w _ hx348_2)).trans hx348_2; replace hx348_3 := (HB.out.cell (World.block_lt_of_cell? w _ hx348_3)).trans hx348_3; replace hx348_4 := (HB.out.cell (World.block_lt_of_cell? w _ hx348_4)).trans hx348_4; replace p348 := eq_true p348; replace q348 := eq_true q348) | ((with_reducible refine gate_callee (f := 47) rfl ?_); refine goesL_ (some 80) rfl rfl Tryd.func47 (by kernel_rfl) rfl #[.slice (some ad343) l0.length c0, .agg #[.int .u32 a2, .int .u32 ((rd_T34 l0 t340).f0), .string (rdOf ByteArray.empty t336 (ji11)), .bool a3, .int .u32 0]] rfl (by (try simp only [List.map_toArray, List.map_cons, List.map_nil]); first | done | (simp only [hji11]; rfl) | rfl | (simp only [List.length_drop, List.length_take]; rfl)) ?_; (with_reducible refine (r10_With.calls kj20 _ _ l0 a2 ((rd_T34 l0 t340).f0) (rdOf ByteArray.empty t336 (ji11)) a3 0 t349 _ ?side1 ?side2 A33.out).mono ?_); (case side1 => repeat (first | exact (Kd.C_below HR0.out (by repeat (first | (with_reducible first | exact HB.out | apply below_alloc | apply pw_below_drewN | apply below_drew1) | exact HB.out))) | (with_reducible refine Kd.C_alloc ?_ _) | (with_reducible refine Kd.C_drewN ?_ _) | (with_reducible refine Kd.C_drew ?_))); (case side2 => exact HC0.out); rintro e w34 ⟨v350, rfl, ho0, hb⟩; refine ⟨_, rfl, ?_⟩; have n0_ := Aside0.mk (Kd.R_lower ho0 (below_size (by repeat (first | (with_reducible first | exact HB.out | apply below_alloc | apply pw_below_drewN | apply below_drew1) | exact HB.out)))); have n1_ := Aside0.mk (below_step (by repeat (first | (with_reducible first | exact HB.out | apply below_alloc | apply pw_below_drewN | apply below_drew1) | exact HB.out)) hb); clear HB; have HO351 := n0_; have HB := n1_; clear n0_ n1_; (try clear hb); (try clear hb2); (try clear hk); (try clear hi); (try clear ho0)))
                                go_ret2
                                exact ⟨_, by first | rfl | (simp [errW_none, errW_some] <;> rfl) | (simp only [← hji11]; first | rfl | (simp [errW_none, errW_some] <;> rfl)) | (simp [*, errW_none, errW_some] <;> rfl), by (with_reducible repeat (first | apply Kd.R_alloc | apply Kd.R_drewN | apply Kd.R_drew)); exact HO351.out, by repeat (first | (with_reducible first | exact HB.out | apply below_alloc | apply pw_below_drewN | apply below_drew1) | exact HB.out)⟩
                              · rw [if_neg c32] at H
                                exact absurd H (by simp)
                            · rw [if_neg c31] at H
                              exact absurd H (by simp)
              · rw [if_neg c15] at H
                exact absurd H (by simp)
            · rw [if_neg c14] at H
              exact absurd H (by simp)
          · rw [if_neg c13] at H
            exact absurd H (by simp)
        · rw [if_neg c12] at H
          exact absurd H (by simp)
      · rw [if_neg c10] at H
        have c10b0 : (t341 == 0) = false := beq_eq_false_iff_ne.mpr c10
        have c10b1 : (t341 != 0) = true := bne_iff_ne.mpr c10
        simp only [Option.some.injEq, Prod.mk.injEq] at H
        obtain ⟨rfl, rfl⟩ := H
        go_enter Tryd.func23, Tryd.ntmps23
        go_wp2_with (first | ((with_reducible refine gate_callee (f := 16) rfl ?_); refine goesL_ (some 16) rfl rfl Tryd.func16 (by kernel_rfl) rfl #[.slice A0 l0.length c0] rfl (by (try simp only [List.map_toArray, List.map_cons, List.map_nil]); first | done | rfl | (simp only [List.length_drop, List.length_take]; rfl)) ?_; (with_reducible refine (r10_Right.calls _ _ l0 true _ ?side1 ?side2 A5.out).mono ?_); (case side1 => repeat (first | exact HR0.out | (with_reducible refine Kd.C_alloc ?_ _) | (with_reducible refine Kd.C_drewN ?_ _) | (with_reducible refine Kd.C_drew ?_))); (case side2 => exact HC0.out); rintro e w35 ⟨rfl, hb⟩; refine ⟨_, rfl, ?_⟩; have n0_ := Aside0.mk (below_step (by repeat (first | (with_reducible first | exact HB.out | apply below_alloc | apply pw_below_drewN | apply below_drew1) | exact HB.out)) hb); clear HB; have HB := n0_; clear n0_; (try clear hb); (try clear hb2); (try clear hk); (try clear hi)) | ((with_reducible refine gate_callee (f := 28) rfl ?_); refine goesL_ (some 20) rfl rfl Tryd.func28 (by kernel_rfl) rfl #[.string a1] rfl (by (try simp only [List.map_toArray, List.map_cons, List.map_nil]); first | done | rfl | (simp only [List.length_drop, List.length_take]; rfl)) ?_; (with_reducible refine (r10_Split.calls k a1 t336 true _ A7.out).mono ?_); rintro e w36 ⟨v338, rfl, ho0, hb⟩; refine ⟨_, rfl, ?_⟩; have n0_ := Aside0.mk (Kd.R_lower ho0 (below_size (by repeat (first | (with_reducible first | exact HB.out | apply below_alloc | apply pw_below_drewN | apply below_drew1) | exact HB.out)))); have n1_ := Aside0.mk (below_step (by repeat (first | (with_reducible first | exact HB.out | apply below_alloc | apply pw_below_drewN | apply below_drew1) | exact HB.out)) hb); clear HB; have HO339 := n0_; have HB := n1_; clear n0_ n1_; (try clear hb); (try clear hb2); (try clear hk); (try clear hi); (try clear ho0); obtain ⟨Ao37, co37, eo37⟩ := Kd.R_slice HO339.out; subst eo37) | ((with_reducible refine gate_callee (f := 43) rfl ?_); refine goesL_ (some 28) rfl rfl Tryd.func43 (by kernel_rfl) rfl #[.slice A0 l0.length c0, .slice Ao37 t336.length co37] rfl (by (try simp only [List.map_toArray, List.map_cons, List.map_nil]); first | done | rfl | (simp only [List.length_drop, List.length_take]; rfl)) ?_; (with_reducible refine (r10_Above.calls k _ _ l0 _ _ t336 t340 t341 _ ?side1 ?side2 ?side3 ?side4 A9.out).mono ?_); (case side1 => repeat (first | exact (Kd.C_below HR0.out HB.out) | (with_reducible refine Kd.C_alloc ?_ _) | (with_reducible refine Kd.C_drewN ?_ _) | (with_reducible refine Kd.C_drew ?_))); (case side2 => exact HC0.out); (case side3 => repeat (first | exact (Kd.R_reads' HO339.out).2.2 | (with_reducible refine Kd.C_alloc ?_ _) | (with_reducible refine Kd.C_drewN ?_ _) | (with_reducible refine Kd.C_drew ?_))); (case side4 => exact (Kd.R_reads' HO339.out).2.1); rintro e w' ⟨rfl, ⟨nd, rfl⟩⟩; refine ⟨_, rfl, ?_⟩))
        go_ret2
        exact ⟨_, by first | rfl | (simp [errW_none, errW_some] <;> rfl) | (simp [*, errW_none, errW_some] <;> rfl), by first | exact Kd.R_nil _ _ _ _ _ | exact Kd.N_nil _ _ _ _ _ | exact Kd.V_nil _ _ _ _ _ | exact Kd.Q_nil _ _ _ _ _ | exact Kd.S_nil _ _ _ _ _, by repeat (first | (with_reducible first | exact HB.out | apply below_alloc | apply pw_below_drewN | apply below_drew1) | exact HB.out)⟩
    · replace c8 := Bool.eq_false_iff.mpr c8
      subst c8
      have H1 : (some (([] : List (S34)), 9)) = some (r1, r2) := by rw [if_neg (show ¬ (false = true) by decide)] at H; exact H
      clear H
      have H := H1
      clear H1
      simp only [Option.some.injEq, Prod.mk.injEq] at H
      obtain ⟨rfl, rfl⟩ := H
      go_enter Tryd.func23, Tryd.ntmps23
      go_wp2_with (first | ((with_reducible refine gate_callee (f := 16) rfl ?_); refine goesL_ (some 16) rfl rfl Tryd.func16 (by kernel_rfl) rfl #[.slice A0 l0.length c0] rfl (by (try simp only [List.map_toArray, List.map_cons, List.map_nil]); first | done | rfl | (simp only [List.length_drop, List.length_take]; rfl)) ?_; (with_reducible refine (r10_Right.calls _ _ l0 true _ ?side1 ?side2 A5.out).mono ?_); (case side1 => repeat (first | exact HR0.out | (with_reducible refine Kd.C_alloc ?_ _) | (with_reducible refine Kd.C_drewN ?_ _) | (with_reducible refine Kd.C_drew ?_))); (case side2 => exact HC0.out); rintro e w38 ⟨rfl, hb⟩; refine ⟨_, rfl, ?_⟩; have n0_ := Aside0.mk (below_step (by repeat (first | (with_reducible first | exact HB.out | apply below_alloc | apply pw_below_drewN | apply below_drew1) | exact HB.out)) hb); clear HB; have HB := n0_; clear n0_; (try clear hb); (try clear hb2); (try clear hk); (try clear hi)) | ((with_reducible refine gate_callee (f := 28) rfl ?_); refine goesL_ (some 20) rfl rfl Tryd.func28 (by kernel_rfl) rfl #[.string a1] rfl (by (try simp only [List.map_toArray, List.map_cons, List.map_nil]); first | done | rfl | (simp only [List.length_drop, List.length_take]; rfl)) ?_; (with_reducible refine (r10_Split.calls k a1 t336 false _ A7.out).mono ?_); rintro e w39 ⟨v338, rfl, ho0, hb⟩; refine ⟨_, rfl, ?_⟩; have n0_ := Aside0.mk (Kd.R_lower ho0 (below_size (by repeat (first | (with_reducible first | exact HB.out | apply below_alloc | apply pw_below_drewN | apply below_drew1) | exact HB.out)))); have n1_ := Aside0.mk (below_step (by repeat (first | (with_reducible first | exact HB.out | apply below_alloc | apply pw_below_drewN | apply below_drew1) | exact HB.out)) hb); clear HB; have HO339 := n0_; have HB := n1_; clear n0_ n1_; (try clear hb); (try clear hb2); (try clear hk); (try clear hi); (try clear ho0)))
      go_ret2
      exact ⟨_, by first | rfl | (simp [errW_none, errW_some] <;> rfl) | (simp [*, errW_none, errW_some] <;> rfl), by first | exact Kd.R_nil _ _ _ _ _ | exact Kd.N_nil _ _ _ _ _ | exact Kd.V_nil _ _ _ _ _ | exact Kd.Q_nil _ _ _ _ _ | exact Kd.S_nil _ _ _ _ _, by repeat (first | (with_reducible first | exact HB.out | apply below_alloc | apply pw_below_drewN | apply below_drew1) | exact HB.out)⟩
  · replace c6 := Bool.eq_false_iff.mpr c6
    subst c6
    have H1 : (some (([] : List (S34)), 1)) = some (r1, r2) := by rw [if_neg (show ¬ (false = true) by decide)] at H; exact H
    clear H
    have H := H1
    clear H1
    simp only [Option.some.injEq, Prod.mk.injEq] at H
    obtain ⟨rfl, rfl⟩ := H
    go_enter Tryd.func23, Tryd.ntmps23
    go_wp2_with (first | ((with_reducible refine gate_callee (f := 16) rfl ?_); refine goesL_ (some 16) rfl rfl Tryd.func16 (by kernel_rfl) rfl #[.slice A0 l0.length c0] rfl (by (try simp only [List.map_toArray, List.map_cons, List.map_nil]); first | done | rfl | (simp only [List.length_drop, List.length_take]; rfl)) ?_; (with_reducible refine (r10_Right.calls _ _ l0 false _ ?side1 ?side2 A5.out).mono ?_); (case side1 => repeat (first | exact HR0.out | (with_reducible refine Kd.C_alloc ?_ _) | (with_reducible refine Kd.C_drewN ?_ _) | (with_reducible refine Kd.C_drew ?_))); (case side2 => exact HC0.out); rintro e w40 ⟨rfl, hb⟩; refine ⟨_, rfl, ?_⟩; have n0_ := Aside0.mk (below_step (by repeat (first | (with_reducible first | exact HB.out | apply below_alloc | apply pw_below_drewN | apply below_drew1) | exact HB.out)) hb); clear HB; have HB := n0_; clear n0_; (try clear hb); (try clear hb2); (try clear hk); (try clear hi)))
    go_ret2
    exact ⟨_, by first | rfl | (simp [errW_none, errW_some] <;> rfl) | (simp [*, errW_none, errW_some] <;> rfl), by first | exact Kd.R_nil _ _ _ _ _ | exact Kd.N_nil _ _ _ _ _ | exact Kd.V_nil _ _ _ _ _ | exact Kd.Q_nil _ _ _ _ _ | exact Kd.S_nil _ _ _ _ _, by repeat (first | (with_reducible first | exact HB.out | apply below_alloc | apply pw_below_drewN | apply below_drew1) | exact HB.out)⟩

end Go.Proofs.YthbdgahmlggpmaaDoor.Q
