-- Printed by wip/pr.py of this work, over the kit's print, with functions proved by hand in their places.
import Derived.Test.YthbdgahmlggpmaaDoorQ0
import Derived.Test.YthbdgahmlggpmaaDoorQ7
import Derived.Test.YthbdgahmlggpmaaDoorQ11
import Derived.Test.YthbdgahmlggpmaaDoorQ21
namespace Go.Proofs.YthbdgahmlggpmaaDoor.Q
open Go.RowKit Go.Proofs.YthbdgahmlggpmaaDoorW.PrintWords Go.Proofs.YthbdgahmlggpmaaDoorW.PrintLast Go.Proofs.YthbdgahmlggpmaaDoorW.PrintMore
attribute [local go_sem] max2_int min2_int max_two min_two max_three min_three max_four min_four   -- for this text's walks alone
set_option linter.unusedVariables false
set_option linter.unusedSimpArgs false

/-! ### r10_Remove: function 25 -/
mutual
def r10_Remove.j0 : Nat → List (S34) → Bool → Int → Int → Bool → Int → Int → ByteArray → Bool → Int → Option ((List (S34)) × Int × Int × ByteArray × Bool × Int × Int)
  | 0, _, _, _, _, _, _, _, _, _, _ => none
  | k + 1, x0, x2, x9, x10, x29, x364000, x364001, x364002, x364003, x364004 => if x29 = true then (if 10 = 0 then ((r10_Without.f x0 x9).bind fun t367 => (some (t367, x364000, x364001, x364002, x364003, x364004, 0))) else (some (([] : List (S34)), 0, 0, (⟨#[]⟩ : ByteArray), false, 0, 10))) else (if x2 = true then ((r10_Kids.f k x0 x364000).bind fun t370 => (r10_Remove.j1 k x0 x2 x9 x10 (decide (t370 > 0)) x364000 x364001 x364002 x364003 x364004)) else (r10_Remove.j1 k x0 x2 x9 x10 false x364000 x364001 x364002 x364003 x364004))
def r10_Remove.j1 : Nat → List (S34) → Bool → Int → Int → Bool → Int → Int → ByteArray → Bool → Int → Option ((List (S34)) × Int × Int × ByteArray × Bool × Int × Int)
  | 0, _, _, _, _, _, _, _, _, _, _ => none
  | k + 1, x0, x2, x9, x10, x36, x364000, x364001, x364002, x364003, x364004 => if x36 = true then (if 24 = 0 then ((r10_Without.f x0 x9).bind fun t371 => (some (t371, x364000, x364001, x364002, x364003, x364004, 0))) else (some (([] : List (S34)), 0, 0, (⟨#[]⟩ : ByteArray), false, 0, 24))) else (if x2 = true then (r10_Remove.j2 k x0 x9 x10 false x364000 x364001 x364002 x364003 x364004) else (r10_Remove.j2 k x0 x9 x10 x364003 x364000 x364001 x364002 x364003 x364004))
def r10_Remove.j2 : Nat → List (S34) → Int → Int → Bool → Int → Int → ByteArray → Bool → Int → Option ((List (S34)) × Int × Int × ByteArray × Bool × Int × Int)
  | 0, _, _, _, _, _, _, _, _, _ => none
  | k + 1, x0, x9, x10, x45, x364000, x364001, x364002, x364003, x364004 => if x45 = true then (if 11 = 0 then ((r10_Without.f x0 x9).bind fun t374 => (some (t374, x364000, x364001, x364002, x364003, x364004, 0))) else (some (([] : List (S34)), 0, 0, (⟨#[]⟩ : ByteArray), false, 0, 11))) else (if x10 = 0 then ((r10_Without.f x0 x9).bind fun t377 => (some (t377, x364000, x364001, x364002, x364003, x364004, 0))) else (some (([] : List (S34)), 0, 0, (⟨#[]⟩ : ByteArray), false, 0, x10)))
end
def r10_Remove.f (k : Nat) (l0 : List (S34)) (a1 : ByteArray) (a2 : Bool) : Option ((List (S34)) × Int × Int × ByteArray × Bool × Int × Int) := (r10_Find.f k l0 a1).bind fun bt360 => (if bt360.2 = 0 then (if 0 ≤ bt360.1 then (if bt360.1 < (l0.length : Int) then (if bt360.1 = 0 then (if 21 = 0 then ((r10_Without.f l0 bt360.1).bind fun t364 => (some (t364, (rd_T34 l0 bt360.1).f0, (rd_T34 l0 bt360.1).f1, (rd_T34 l0 bt360.1).f2, (rd_T34 l0 bt360.1).f3, (rd_T34 l0 bt360.1).f4, 0))) else (some (([] : List (S34)), 0, 0, (⟨#[]⟩ : ByteArray), false, 0, 21))) else (if a2 = true then (r10_Remove.j0 k l0 a2 bt360.1 0 (!((rd_T34 l0 bt360.1).f3)) ((rd_T34 l0 bt360.1).f0) ((rd_T34 l0 bt360.1).f1) ((rd_T34 l0 bt360.1).f2) ((rd_T34 l0 bt360.1).f3) ((rd_T34 l0 bt360.1).f4)) else (r10_Remove.j0 k l0 a2 bt360.1 0 false ((rd_T34 l0 bt360.1).f0) ((rd_T34 l0 bt360.1).f1) ((rd_T34 l0 bt360.1).f2) ((rd_T34 l0 bt360.1).f3) ((rd_T34 l0 bt360.1).f4)))) else (none)) else (none)) else (some (([] : List (S34)), 0, 0, (⟨#[]⟩ : ByteArray), false, 0, bt360.2)))
theorem r10_Remove.mono_l : ∀ k, (∀ y0 y1 y2 y3 y4 y5 y6 y7 y8 y9, LeO (r10_Remove.j0 k y0 y1 y2 y3 y4 y5 y6 y7 y8 y9) (r10_Remove.j0 (k + 1) y0 y1 y2 y3 y4 y5 y6 y7 y8 y9)) ∧ (∀ y0 y1 y2 y3 y4 y5 y6 y7 y8 y9, LeO (r10_Remove.j1 k y0 y1 y2 y3 y4 y5 y6 y7 y8 y9) (r10_Remove.j1 (k + 1) y0 y1 y2 y3 y4 y5 y6 y7 y8 y9)) ∧ (∀ y0 y1 y2 y3 y4 y5 y6 y7 y8, LeO (r10_Remove.j2 k y0 y1 y2 y3 y4 y5 y6 y7 y8) (r10_Remove.j2 (k + 1) y0 y1 y2 y3 y4 y5 y6 y7 y8))
  | 0 => ⟨fun _ _ _ _ _ _ _ _ _ _ r h => by simp [r10_Remove.j0] at h, fun _ _ _ _ _ _ _ _ _ _ r h => by simp [r10_Remove.j1] at h, fun _ _ _ _ _ _ _ _ _ r h => by simp [r10_Remove.j2] at h⟩
  | k + 1 => by
    obtain ⟨ih0, ih1, ih2⟩ := r10_Remove.mono_l k
    refine ⟨?_, ?_, ?_⟩
    · intro y0 y1 y2 y3 y4 y5 y6 y7 y8 y9
      unfold r10_Remove.j0
      repeat' first
      | (with_reducible exact ih0 _ _ _ _ _ _ _ _ _ _)
      | (with_reducible exact ih1 _ _ _ _ _ _ _ _ _ _)
      | (with_reducible exact ih2 _ _ _ _ _ _ _ _ _)
      | (with_reducible exact r10_Find.mono _ _ _)
      | (with_reducible exact r10_Kids.mono _ _ _)
      | (with_reducible exact LeO.refl _)
      | (with_reducible exact LeO.none _)
      | (with_reducible refine LeO.ite ?_ ?_)
      | (with_reducible refine LeO.bind ?_ (fun _ => ?_))
      | exact ih0 _ _ _ _ _ _ _ _ _ _
      | exact ih1 _ _ _ _ _ _ _ _ _ _
      | exact ih2 _ _ _ _ _ _ _ _ _
      | exact r10_Find.mono _ _ _
      | exact r10_Kids.mono _ _ _
      | exact LeO.none _
      | refine LeO.ite ?_ ?_
      | refine LeO.bind ?_ (fun _ => ?_)
    · intro y0 y1 y2 y3 y4 y5 y6 y7 y8 y9
      unfold r10_Remove.j1
      repeat' first
      | (with_reducible exact ih0 _ _ _ _ _ _ _ _ _ _)
      | (with_reducible exact ih1 _ _ _ _ _ _ _ _ _ _)
      | (with_reducible exact ih2 _ _ _ _ _ _ _ _ _)
      | (with_reducible exact r10_Find.mono _ _ _)
      | (with_reducible exact r10_Kids.mono _ _ _)
      | (with_reducible exact LeO.refl _)
      | (with_reducible exact LeO.none _)
      | (with_reducible refine LeO.ite ?_ ?_)
      | (with_reducible refine LeO.bind ?_ (fun _ => ?_))
      | exact ih0 _ _ _ _ _ _ _ _ _ _
      | exact ih1 _ _ _ _ _ _ _ _ _ _
      | exact ih2 _ _ _ _ _ _ _ _ _
      | exact r10_Find.mono _ _ _
      | exact r10_Kids.mono _ _ _
      | exact LeO.none _
      | refine LeO.ite ?_ ?_
      | refine LeO.bind ?_ (fun _ => ?_)
    · intro y0 y1 y2 y3 y4 y5 y6 y7 y8
      unfold r10_Remove.j2
      repeat' first
      | (with_reducible exact ih0 _ _ _ _ _ _ _ _ _ _)
      | (with_reducible exact ih1 _ _ _ _ _ _ _ _ _ _)
      | (with_reducible exact ih2 _ _ _ _ _ _ _ _ _)
      | (with_reducible exact r10_Find.mono _ _ _)
      | (with_reducible exact r10_Kids.mono _ _ _)
      | (with_reducible exact LeO.refl _)
      | (with_reducible exact LeO.none _)
      | (with_reducible refine LeO.ite ?_ ?_)
      | (with_reducible refine LeO.bind ?_ (fun _ => ?_))
      | exact ih0 _ _ _ _ _ _ _ _ _ _
      | exact ih1 _ _ _ _ _ _ _ _ _ _
      | exact ih2 _ _ _ _ _ _ _ _ _
      | exact r10_Find.mono _ _ _
      | exact r10_Kids.mono _ _ _
      | exact LeO.none _
      | refine LeO.ite ?_ ?_
      | refine LeO.bind ?_ (fun _ => ?_)
theorem r10_Remove.mono : ∀ a0 a1 a2 k, LeO (r10_Remove.f k a0 a1 a2) (r10_Remove.f (k + 1) a0 a1 a2) := by
  intro a0 a1 a2 k
  obtain ⟨ih0, ih1, ih2⟩ := r10_Remove.mono_l k
  unfold r10_Remove.f
  repeat' first
      | (with_reducible exact ih0 _ _ _ _ _ _ _ _ _ _)
      | (with_reducible exact ih1 _ _ _ _ _ _ _ _ _ _)
      | (with_reducible exact ih2 _ _ _ _ _ _ _ _ _)
      | (with_reducible exact r10_Find.mono _ _ _)
      | (with_reducible exact r10_Kids.mono _ _ _)
      | (with_reducible exact LeO.refl _)
      | (with_reducible exact LeO.none _)
      | (with_reducible refine LeO.ite ?_ ?_)
      | (with_reducible refine LeO.bind ?_ (fun _ => ?_))
      | exact ih0 _ _ _ _ _ _ _ _ _ _
      | exact ih1 _ _ _ _ _ _ _ _ _ _
      | exact ih2 _ _ _ _ _ _ _ _ _
      | exact r10_Find.mono _ _ _
      | exact r10_Kids.mono _ _ _
      | exact LeO.none _
      | refine LeO.ite ?_ ?_
      | refine LeO.bind ?_ (fun _ => ?_)
set_option maxHeartbeats 8000000 in
set_option maxRecDepth 100000 in
theorem r10_Remove.calls (k : Nat) (A0 : Option Addr) (c0 : Nat) (l0 : List (S34)) (a1 : ByteArray) (a2 : Bool) (r1 : List (S34)) (r2 : Int) (r3 : Int) (r4 : ByteArray) (r5 : Bool) (r6 : Int) (r7 : Int) (w : World) (hr0 : Kd.C k34 w A0 l0.length l0) (hc0 : l0.length ≤ c0) (h : r10_Remove.f k l0 a1 a2 = some (r1, r2, r3, r4, r5, r6, r7)) :
    Calls Tryd.prog 25 #[.slice A0 l0.length c0, .string a1, .bool a2] w fun e w' => ∃ v0_ : Value, e = .returned (.tuple #[v0_, .agg #[.int .u32 r2, .int .u32 r3, .string r4, .bool r5, .int .u32 r6], .int .i64 r7]) ∧ Kd.R k34 34 w' w.heap.size (fun _ => True) v0_ r1 ∧ Below w.heap.size w w' := by
  have hu34 := Tryd.underlying34
  have HR0 := Aside0.mk hr0
  have HC0 := Aside0.mk hc0
  clear hr0 hc0
  have HB := Aside0.mk (Below.refl w.heap.size w)
  have H : ((r10_Find.f k l0 a1).bind fun bt360 => (if bt360.2 = 0 then (if 0 ≤ bt360.1 then (if bt360.1 < (l0.length : Int) then (if bt360.1 = 0 then (if 21 = 0 then ((r10_Without.f l0 bt360.1).bind fun t364 => (some (t364, (rd_T34 l0 bt360.1).f0, (rd_T34 l0 bt360.1).f1, (rd_T34 l0 bt360.1).f2, (rd_T34 l0 bt360.1).f3, (rd_T34 l0 bt360.1).f4, 0))) else (some (([] : List (S34)), 0, 0, (⟨#[]⟩ : ByteArray), false, 0, 21))) else (if a2 = true then (r10_Remove.j0 k l0 a2 bt360.1 0 (!((rd_T34 l0 bt360.1).f3)) ((rd_T34 l0 bt360.1).f0) ((rd_T34 l0 bt360.1).f1) ((rd_T34 l0 bt360.1).f2) ((rd_T34 l0 bt360.1).f3) ((rd_T34 l0 bt360.1).f4)) else (r10_Remove.j0 k l0 a2 bt360.1 0 false ((rd_T34 l0 bt360.1).f0) ((rd_T34 l0 bt360.1).f1) ((rd_T34 l0 bt360.1).f2) ((rd_T34 l0 bt360.1).f3) ((rd_T34 l0 bt360.1).f4)))) else (none)) else (none)) else (some (([] : List (S34)), 0, 0, (⟨#[]⟩ : ByteArray), false, 0, bt360.2)))) = some (r1, r2, r3, r4, r5, r6, r7) := h
  clear h
  replace H := Option.bind_eq_some_iff.mp H
  obtain ⟨⟨t360, t361⟩, A40, H⟩ := H
  replace H : (if t361 = 0 then (if 0 ≤ t360 then (if t360 < (l0.length : Int) then (if t360 = 0 then (if 21 = 0 then ((r10_Without.f l0 t360).bind fun t364 => (some (t364, (rd_T34 l0 t360).f0, (rd_T34 l0 t360).f1, (rd_T34 l0 t360).f2, (rd_T34 l0 t360).f3, (rd_T34 l0 t360).f4, 0))) else (some (([] : List (S34)), 0, 0, (⟨#[]⟩ : ByteArray), false, 0, 21))) else (if a2 = true then (r10_Remove.j0 k l0 a2 t360 0 (!((rd_T34 l0 t360).f3)) ((rd_T34 l0 t360).f0) ((rd_T34 l0 t360).f1) ((rd_T34 l0 t360).f2) ((rd_T34 l0 t360).f3) ((rd_T34 l0 t360).f4)) else (r10_Remove.j0 k l0 a2 t360 0 false ((rd_T34 l0 t360).f0) ((rd_T34 l0 t360).f1) ((rd_T34 l0 t360).f2) ((rd_T34 l0 t360).f3) ((rd_T34 l0 t360).f4)))) else (none)) else (none)) else (some (([] : List (S34)), 0, 0, (⟨#[]⟩ : ByteArray), false, 0, t361))) = some (r1, r2, r3, r4, r5, r6, r7) := H
  have A4 := Aside0.mk A40
  clear A40
  by_cases c5 : t361 = 0
  · rw [if_pos c5] at H
    have c5b0 : (t361 == 0) = true := beq_iff_eq.mpr c5
    have c5b1 : (t361 != 0) = false := bne_eq_false_iff_eq.mpr c5
    clear c5
    by_cases c6 : 0 ≤ t360
    · rw [if_pos c6] at H
      have c6b0 : decide (0 ≤ t360) = true := decide_eq_true c6
      clear c6
      by_cases c7 : t360 < (l0.length : Int)
      · rw [if_pos c7] at H
        have c7b0 : decide (t360 < (l0.length : Int)) = true := decide_eq_true c7
        clear c7
        by_cases c8 : t360 = 0
        · rw [if_pos c8] at H
          have c8b0 : (t360 == 0) = true := beq_iff_eq.mpr c8
          have c8b1 : (t360 != 0) = false := bne_eq_false_iff_eq.mpr c8
          clear c8
          by_cases c9 : 21 = 0
          · exact absurd c9 (by decide)
          · rw [if_neg c9] at H
            have c9b0 : (21 == 0) = false := beq_eq_false_iff_ne.mpr c9
            have c9b1 : (21 != 0) = true := bne_iff_ne.mpr c9
            simp only [Option.some.injEq, Prod.mk.injEq] at H
            obtain ⟨rfl, rfl, rfl, rfl, rfl, rfl, rfl⟩ := H
            go_enter Tryd.func25, Tryd.ntmps25
            go_wp2_with (first | ((with_reducible refine gate_dst (N := 7) rfl ?_); refine box_event ?hg (N := 7) ?hd (cs := #[.int .u32 0, .int .u32 0, .string (⟨#[]⟩ : ByteArray), .bool false, .int .u32 0]) (t := 34) ?hr ?_; (case hd => rfl); (case hg => rfl); (case hr => first | (go_simp; done) | (go_simp; rfl)); intro gb359 hg w24 hbox hb; have n0_ := Aside0.mk (below_step (by repeat (first | (with_reducible first | exact HB.out | apply below_alloc | apply pw_below_drewN | apply below_drew1) | exact HB.out)) hb); have n1_ := Aside0.mk (hbox); have n2_ := Aside0.mk ((by rw [hg]; exact (below_size (by repeat (first | (with_reducible first | exact HB.out | apply below_alloc | apply pw_below_drewN | apply below_drew1) | exact HB.out))) : w.heap.size ≤ gb359)); have n3_ := Aside0.mk ((by rw [hg]; exact (below_size (by repeat (first | (with_reducible first | exact HB.out | apply below_alloc | apply pw_below_drewN | apply below_drew1) | exact HB.out))) : w.heap.size ≤ gb359)); clear HB; have HB := n0_; have BK359 := n1_; have GW359 := n2_; have GE359 := n3_; clear n0_ n1_ n2_ n3_; clear hb hbox hg) | ((with_reducible refine gate_callee (f := 29) rfl ?_); refine goesL_ (some 15) rfl rfl Tryd.func29 (by kernel_rfl) rfl #[.slice A0 l0.length c0, .string a1] rfl (by (try simp only [List.map_toArray, List.map_cons, List.map_nil]); first | done | rfl | (simp only [List.length_drop, List.length_take]; rfl)) ?_; (with_reducible refine (r10_Find.calls k _ _ l0 a1 t360 t361 _ ?side1 ?side2 A4.out).mono ?_); (case side1 => repeat (first | exact (Kd.C_below HR0.out HB.out) | (with_reducible refine Kd.C_alloc ?_ _) | (with_reducible refine Kd.C_drewN ?_ _) | (with_reducible refine Kd.C_drew ?_))); (case side2 => exact HC0.out); rintro e w25 ⟨rfl, hb⟩; refine ⟨_, rfl, ?_⟩; have n0_ := Aside0.mk (blk_below (g := gb359) (o := .cells #[.int .u32 0, .int .u32 0, .string (⟨#[]⟩ : ByteArray), .bool false, .int .u32 0] 34 (0, 0)) (by (with_reducible repeat (first | refine blk_drewN ?_ _ | refine blk_drew ?_ | refine blk_alloc ?_ _)); exact BK359.out) hb); have n1_ := Aside0.mk (below_step (by repeat (first | (with_reducible first | exact HB.out | apply below_alloc | apply pw_below_drewN | apply below_drew1 | refine below_set ?_ GE359.out) | exact HB.out)) hb); clear BK359; clear HB; have BK359 := n0_; have HB := n1_; clear n0_ n1_; (try clear hb); (try clear hb2); (try clear hk); (try clear hi); have p362 : 0 ≤ (t360 : Int) := of_decide_eq_true (by first | (with_reducible assumption) | assumption); have q362 : t360 < (l0.length : Int) := of_decide_eq_true (by first | (with_reducible assumption) | assumption); obtain ⟨ad362, e362, hx362_0, hx362_1, hx362_2, hx362_3, hx362_4⟩ := at_T34 HR0.out t360 p362 q362; cases e362; replace hx362_0 := (HB.out.cell (World.block_lt_of_cell? w _ hx362_0)).trans hx362_0; replace hx362_1 := (HB.out.cell (World.block_lt_of_cell? w _ hx362_1)).trans hx362_1; replace hx362_2 := (HB.out.cell (World.block_lt_of_cell? w _ hx362_2)).trans hx362_2; replace hx362_3 := (HB.out.cell (World.block_lt_of_cell? w _ hx362_3)).trans hx362_3; replace hx362_4 := (HB.out.cell (World.block_lt_of_cell? w _ hx362_4)).trans hx362_4; replace p362 := eq_true p362; replace q362 := eq_true q362) | ((with_reducible refine gate_dst (N := 11) rfl ?_); refine box_event ?hg (N := 11) ?hd (cs := #[.int .u32 0, .int .u32 0, .string (⟨#[]⟩ : ByteArray), .bool false, .int .u32 0]) (t := 34) ?hr ?_; (case hd => rfl); (case hg => rfl); (case hr => first | (go_simp; done) | (go_simp; rfl)); intro gb363 hg w26 hbox hb; have n0_ := Aside0.mk (blk_below (g := gb359) (o := .cells #[.int .u32 0, .int .u32 0, .string (⟨#[]⟩ : ByteArray), .bool false, .int .u32 0] 34 (0, 0)) (by (with_reducible repeat (first | refine blk_drewN ?_ _ | refine blk_drew ?_ | refine blk_alloc ?_ _)); exact BK359.out) hb); have n1_ := Aside0.mk (below_step (by repeat (first | (with_reducible first | exact HB.out | apply below_alloc | apply pw_below_drewN | apply below_drew1 | refine below_set ?_ GE359.out) | exact HB.out)) hb); have n2_ := Aside0.mk (hbox); have n3_ := Aside0.mk ((by rw [hg]; exact (below_size (by repeat (first | (with_reducible first | exact HB.out | apply below_alloc | apply pw_below_drewN | apply below_drew1 | refine below_set ?_ GE359.out) | exact HB.out))) : w.heap.size ≤ gb363)); have n4_ := Aside0.mk ((by rw [hg]; exact (below_size (by repeat (first | (with_reducible first | exact HB.out | apply below_alloc | apply pw_below_drewN | apply below_drew1 | refine below_set ?_ GE359.out) | exact HB.out))) : w.heap.size ≤ gb363)); have n5_ := Aside0.mk ((by rw [hg]; exact Nat.ne_of_lt (blk_lt (g := gb359) (o := .cells #[.int .u32 0, .int .u32 0, .string (⟨#[]⟩ : ByteArray), .bool false, .int .u32 0] 34 (0, 0)) (by (with_reducible repeat (first | refine blk_drewN ?_ _ | refine blk_drew ?_ | refine blk_alloc ?_ _)); exact BK359.out)) : gb359 ≠ gb363)); have n6_ := Aside0.mk ((by rw [hg]; exact Nat.ne_of_gt (blk_lt (g := gb359) (o := .cells #[.int .u32 0, .int .u32 0, .string (⟨#[]⟩ : ByteArray), .bool false, .int .u32 0] 34 (0, 0)) (by (with_reducible repeat (first | refine blk_drewN ?_ _ | refine blk_drew ?_ | refine blk_alloc ?_ _)); exact BK359.out)) : gb363 ≠ gb359)); clear BK359; clear HB; have BK359 := n0_; have HB := n1_; have BK363 := n2_; have GW363 := n3_; have GE363 := n4_; have NB359_363 := n5_; have NB363_359 := n6_; clear n0_ n1_ n2_ n3_ n4_ n5_ n6_; clear hb hbox hg; have hnb27 := NB363_359.out; have hnc27 := NB359_363.out; have hcz28_0 : w26.cell? ⟨gb363, 0, none⟩ = some (.int .u32 0) := (blk_cell BK363.out 0).trans rfl; have hcz28_1 : w26.cell? ⟨gb363, 1, none⟩ = some (.int .u32 0) := (blk_cell BK363.out 1).trans rfl; have hcz28_2 : w26.cell? ⟨gb363, 2, none⟩ = some (.string (⟨#[]⟩ : ByteArray)) := (blk_cell BK363.out 2).trans rfl; have hcz28_3 : w26.cell? ⟨gb363, 3, none⟩ = some (.bool false) := (blk_cell BK363.out 3).trans rfl; have hcz28_4 : w26.cell? ⟨gb363, 4, none⟩ = some (.int .u32 0) := (blk_cell BK363.out 4).trans rfl; have hfz28_0 := blk_frozen BK363.out 0; have hfz28_1 := blk_frozen BK363.out 1; have hfz28_2 := blk_frozen BK363.out 2; have hfz28_3 := blk_frozen BK363.out 3; have hfz28_4 := blk_frozen BK363.out 4; have hcz29_0 : w26.cell? ⟨gb359, 0, none⟩ = some (.int .u32 0) := (blk_cell BK359.out 0).trans rfl; have hcz29_1 : w26.cell? ⟨gb359, 1, none⟩ = some (.int .u32 0) := (blk_cell BK359.out 1).trans rfl; have hcz29_2 : w26.cell? ⟨gb359, 2, none⟩ = some (.string (⟨#[]⟩ : ByteArray)) := (blk_cell BK359.out 2).trans rfl; have hcz29_3 : w26.cell? ⟨gb359, 3, none⟩ = some (.bool false) := (blk_cell BK359.out 3).trans rfl; have hcz29_4 : w26.cell? ⟨gb359, 4, none⟩ = some (.int .u32 0) := (blk_cell BK359.out 4).trans rfl; have hfz29_0 := blk_frozen BK359.out 0; have hfz29_1 := blk_frozen BK359.out 1; have hfz29_2 := blk_frozen BK359.out 2; have hfz29_3 := blk_frozen BK359.out 3; have hfz29_4 := blk_frozen BK359.out 4))
            refine bodyPost_ret (results_list (rs := [.tmp 6, .cell 7 34, .tmp 8]) rfl (by simp) (.tmp (.cell gb359 34 #[.int .u32 0, .int .u32 0, .string (⟨#[]⟩ : ByteArray), .bool false, .int .u32 0] (0, 0) _ rfl (by (with_reducible repeat (first | refine blk_drewN ?_ _ | refine blk_drew ?_ | refine blk_alloc ?_ _)); refine blk_put (cs := #[.int .u32 0, .int .u32 0, .string (⟨#[]⟩ : ByteArray), .bool false, .int .u32 0]) ?_ 4 _ rfl; (with_reducible repeat (first | refine blk_drewN ?_ _ | refine blk_drew ?_ | refine blk_alloc ?_ _)); refine blk_put (cs := #[.int .u32 0, .int .u32 0, .string (⟨#[]⟩ : ByteArray), .bool false, .int .u32 0]) ?_ 3 _ rfl; (with_reducible repeat (first | refine blk_drewN ?_ _ | refine blk_drew ?_ | refine blk_alloc ?_ _)); refine blk_put (cs := #[.int .u32 0, .int .u32 0, .string (⟨#[]⟩ : ByteArray), .bool false, .int .u32 0]) ?_ 2 _ rfl; (with_reducible repeat (first | refine blk_drewN ?_ _ | refine blk_drew ?_ | refine blk_alloc ?_ _)); refine blk_put (cs := #[.int .u32 0, .int .u32 0, .string (⟨#[]⟩ : ByteArray), .bool false, .int .u32 0]) ?_ 1 _ rfl; (with_reducible repeat (first | refine blk_drewN ?_ _ | refine blk_drew ?_ | refine blk_alloc ?_ _)); refine blk_put (cs := #[.int .u32 0, .int .u32 0, .string (⟨#[]⟩ : ByteArray), .bool false, .int .u32 0]) ?_ 0 _ rfl; (with_reducible repeat (first | refine blk_drewN ?_ _ | refine blk_drew ?_ | refine blk_alloc ?_ _)); refine blk_far ?_ NB359_363.out _; (with_reducible repeat (first | refine blk_drewN ?_ _ | refine blk_drew ?_ | refine blk_alloc ?_ _)); refine blk_far ?_ NB359_363.out _; (with_reducible repeat (first | refine blk_drewN ?_ _ | refine blk_drew ?_ | refine blk_alloc ?_ _)); refine blk_far ?_ NB359_363.out _; (with_reducible repeat (first | refine blk_drewN ?_ _ | refine blk_drew ?_ | refine blk_alloc ?_ _)); refine blk_far ?_ NB359_363.out _; (with_reducible repeat (first | refine blk_drewN ?_ _ | refine blk_drew ?_ | refine blk_alloc ?_ _)); refine blk_far ?_ NB359_363.out _; (with_reducible repeat (first | refine blk_drewN ?_ _ | refine blk_drew ?_ | refine blk_alloc ?_ _)); exact BK359.out) Tryd.underlying34 rfl (by kernel_rfl) (.tmp .nil)))) rfl ?_
            exact ⟨_, by first | rfl | (simp [errW_none, errW_some] <;> rfl) | (simp [*, errW_none, errW_some] <;> rfl), by first | exact Kd.R_nil _ _ _ _ _ | exact Kd.N_nil _ _ _ _ _ | exact Kd.V_nil _ _ _ _ _ | exact Kd.Q_nil _ _ _ _ _ | exact Kd.S_nil _ _ _ _ _, by repeat (first | (with_reducible first | exact HB.out | apply below_alloc | apply pw_below_drewN | apply below_drew1 | refine below_set ?_ GE359.out | refine below_set ?_ GE363.out) | exact HB.out)⟩
        · rw [if_neg c8] at H
          have c8b0 : (t360 == 0) = false := beq_eq_false_iff_ne.mpr c8
          have c8b1 : (t360 != 0) = true := bne_iff_ne.mpr c8
          have HC30 := Aside0.mk H
          clear H
          go_enter Tryd.func25, Tryd.ntmps25
          go_upto_region 8 with (first | ((with_reducible refine gate_dst (N := 7) rfl ?_); refine box_event ?hg (N := 7) ?hd (cs := #[.int .u32 0, .int .u32 0, .string (⟨#[]⟩ : ByteArray), .bool false, .int .u32 0]) (t := 34) ?hr ?_; (case hd => rfl); (case hg => rfl); (case hr => first | (go_simp; done) | (go_simp; rfl)); intro gb359 hg w31 hbox hb; have n0_ := Aside0.mk (below_step (by repeat (first | (with_reducible first | exact HB.out | apply below_alloc | apply pw_below_drewN | apply below_drew1) | exact HB.out)) hb); have n1_ := Aside0.mk (hbox); have n2_ := Aside0.mk ((by rw [hg]; exact (below_size (by repeat (first | (with_reducible first | exact HB.out | apply below_alloc | apply pw_below_drewN | apply below_drew1) | exact HB.out))) : w.heap.size ≤ gb359)); have n3_ := Aside0.mk ((by rw [hg]; exact (below_size (by repeat (first | (with_reducible first | exact HB.out | apply below_alloc | apply pw_below_drewN | apply below_drew1) | exact HB.out))) : w.heap.size ≤ gb359)); clear HB; have HB := n0_; have BK359 := n1_; have GW359 := n2_; have GE359 := n3_; clear n0_ n1_ n2_ n3_; clear hb hbox hg) | ((with_reducible refine gate_callee (f := 29) rfl ?_); refine goesL_ (some 15) rfl rfl Tryd.func29 (by kernel_rfl) rfl #[.slice A0 l0.length c0, .string a1] rfl (by (try simp only [List.map_toArray, List.map_cons, List.map_nil]); first | done | rfl | (simp only [List.length_drop, List.length_take]; rfl)) ?_; (with_reducible refine (r10_Find.calls k _ _ l0 a1 t360 t361 _ ?side1 ?side2 A4.out).mono ?_); (case side1 => repeat (first | exact (Kd.C_below HR0.out HB.out) | (with_reducible refine Kd.C_alloc ?_ _) | (with_reducible refine Kd.C_drewN ?_ _) | (with_reducible refine Kd.C_drew ?_))); (case side2 => exact HC0.out); rintro e w32 ⟨rfl, hb⟩; refine ⟨_, rfl, ?_⟩; have n0_ := Aside0.mk (blk_below (g := gb359) (o := .cells #[.int .u32 0, .int .u32 0, .string (⟨#[]⟩ : ByteArray), .bool false, .int .u32 0] 34 (0, 0)) (by (with_reducible repeat (first | refine blk_drewN ?_ _ | refine blk_drew ?_ | refine blk_alloc ?_ _)); exact BK359.out) hb); have n1_ := Aside0.mk (below_step (by repeat (first | (with_reducible first | exact HB.out | apply below_alloc | apply pw_below_drewN | apply below_drew1 | refine below_set ?_ GE359.out) | exact HB.out)) hb); clear BK359; clear HB; have BK359 := n0_; have HB := n1_; clear n0_ n1_; (try clear hb); (try clear hb2); (try clear hk); (try clear hi); have p362 : 0 ≤ (t360 : Int) := of_decide_eq_true (by first | (with_reducible assumption) | assumption); have q362 : t360 < (l0.length : Int) := of_decide_eq_true (by first | (with_reducible assumption) | assumption); obtain ⟨ad362, e362, hx362_0, hx362_1, hx362_2, hx362_3, hx362_4⟩ := at_T34 HR0.out t360 p362 q362; cases e362; replace hx362_0 := (HB.out.cell (World.block_lt_of_cell? w _ hx362_0)).trans hx362_0; replace hx362_1 := (HB.out.cell (World.block_lt_of_cell? w _ hx362_1)).trans hx362_1; replace hx362_2 := (HB.out.cell (World.block_lt_of_cell? w _ hx362_2)).trans hx362_2; replace hx362_3 := (HB.out.cell (World.block_lt_of_cell? w _ hx362_3)).trans hx362_3; replace hx362_4 := (HB.out.cell (World.block_lt_of_cell? w _ hx362_4)).trans hx362_4; replace p362 := eq_true p362; replace q362 := eq_true q362) | ((with_reducible refine gate_dst (N := 11) rfl ?_); refine box_event ?hg (N := 11) ?hd (cs := #[.int .u32 0, .int .u32 0, .string (⟨#[]⟩ : ByteArray), .bool false, .int .u32 0]) (t := 34) ?hr ?_; (case hd => rfl); (case hg => rfl); (case hr => first | (go_simp; done) | (go_simp; rfl)); intro gb363 hg w33 hbox hb; have n0_ := Aside0.mk (blk_below (g := gb359) (o := .cells #[.int .u32 0, .int .u32 0, .string (⟨#[]⟩ : ByteArray), .bool false, .int .u32 0] 34 (0, 0)) (by (with_reducible repeat (first | refine blk_drewN ?_ _ | refine blk_drew ?_ | refine blk_alloc ?_ _)); exact BK359.out) hb); have n1_ := Aside0.mk (below_step (by repeat (first | (with_reducible first | exact HB.out | apply below_alloc | apply pw_below_drewN | apply below_drew1 | refine below_set ?_ GE359.out) | exact HB.out)) hb); have n2_ := Aside0.mk (hbox); have n3_ := Aside0.mk ((by rw [hg]; exact (below_size (by repeat (first | (with_reducible first | exact HB.out | apply below_alloc | apply pw_below_drewN | apply below_drew1 | refine below_set ?_ GE359.out) | exact HB.out))) : w.heap.size ≤ gb363)); have n4_ := Aside0.mk ((by rw [hg]; exact (below_size (by repeat (first | (with_reducible first | exact HB.out | apply below_alloc | apply pw_below_drewN | apply below_drew1 | refine below_set ?_ GE359.out) | exact HB.out))) : w.heap.size ≤ gb363)); have n5_ := Aside0.mk ((by rw [hg]; exact Nat.ne_of_lt (blk_lt (g := gb359) (o := .cells #[.int .u32 0, .int .u32 0, .string (⟨#[]⟩ : ByteArray), .bool false, .int .u32 0] 34 (0, 0)) (by (with_reducible repeat (first | refine blk_drewN ?_ _ | refine blk_drew ?_ | refine blk_alloc ?_ _)); exact BK359.out)) : gb359 ≠ gb363)); have n6_ := Aside0.mk ((by rw [hg]; exact Nat.ne_of_gt (blk_lt (g := gb359) (o := .cells #[.int .u32 0, .int .u32 0, .string (⟨#[]⟩ : ByteArray), .bool false, .int .u32 0] 34 (0, 0)) (by (with_reducible repeat (first | refine blk_drewN ?_ _ | refine blk_drew ?_ | refine blk_alloc ?_ _)); exact BK359.out)) : gb363 ≠ gb359)); clear BK359; clear HB; have BK359 := n0_; have HB := n1_; have BK363 := n2_; have GW363 := n3_; have GE363 := n4_; have NB359_363 := n5_; have NB363_359 := n6_; clear n0_ n1_ n2_ n3_ n4_ n5_ n6_; clear hb hbox hg; have hnb34 := NB363_359.out; have hnc34 := NB359_363.out; have hcz35_0 : w33.cell? ⟨gb363, 0, none⟩ = some (.int .u32 0) := (blk_cell BK363.out 0).trans rfl; have hcz35_1 : w33.cell? ⟨gb363, 1, none⟩ = some (.int .u32 0) := (blk_cell BK363.out 1).trans rfl; have hcz35_2 : w33.cell? ⟨gb363, 2, none⟩ = some (.string (⟨#[]⟩ : ByteArray)) := (blk_cell BK363.out 2).trans rfl; have hcz35_3 : w33.cell? ⟨gb363, 3, none⟩ = some (.bool false) := (blk_cell BK363.out 3).trans rfl; have hcz35_4 : w33.cell? ⟨gb363, 4, none⟩ = some (.int .u32 0) := (blk_cell BK363.out 4).trans rfl; have hfz35_0 := blk_frozen BK363.out 0; have hfz35_1 := blk_frozen BK363.out 1; have hfz35_2 := blk_frozen BK363.out 2; have hfz35_3 := blk_frozen BK363.out 3; have hfz35_4 := blk_frozen BK363.out 4))
          (try simp only [Act.put, List.setIfInBounds_toArray, List.set_cons_zero, List.set_cons_succ])
          go_cut [29] (fun v29 wc => ∃ (kq : Nat) (x29_29 : Bool), v29 = .bool x29_29 ∧ Aside0 (r10_Remove.j0 kq l0 a2 t360 0 x29_29 ((rd_T34 l0 t360).f0) ((rd_T34 l0 t360).f1) ((rd_T34 l0 t360).f2) ((rd_T34 l0 t360).f3) ((rd_T34 l0 t360).f4) = some (r1, r2, r3, r4, r5, r6, r7)) ∧ Aside0 (kq ≤ k) ∧ Aside0 (wc.heap[gb359]? = some (.cells #[.int .u32 0, .int .u32 0, .string (⟨#[]⟩ : ByteArray), .bool false, .int .u32 0] 34 (0, 0))) ∧ Aside0 (wc.heap[gb363]? = some (.cells #[.int .u32 ((rd_T34 l0 t360).f0), .int .u32 ((rd_T34 l0 t360).f1), .string ((rd_T34 l0 t360).f2), .bool ((rd_T34 l0 t360).f3), .int .u32 ((rd_T34 l0 t360).f4)] 34 (0, 0))) ∧ Aside0 (Below w.heap.size w wc))
          case first =>
            have H := HC30.out
            clear HC30
            by_cases c36 : a2 = true
            · subst c36
              have H1 : (r10_Remove.j0 k l0 true t360 0 (!((rd_T34 l0 t360).f3)) ((rd_T34 l0 t360).f0) ((rd_T34 l0 t360).f1) ((rd_T34 l0 t360).f2) ((rd_T34 l0 t360).f3) ((rd_T34 l0 t360).f4)) = some (r1, r2, r3, r4, r5, r6, r7) := by rw [if_pos rfl] at H; exact H
              clear H
              have H := H1
              clear H1
              have H' := Aside0.mk H
              clear H
              have hnb37 := NB363_359.out
              have hnc37 := NB359_363.out
              have hcz38_0 : w33.cell? ⟨gb363, 0, none⟩ = some (.int .u32 0) := (blk_cell BK363.out 0).trans rfl
              have hcz38_1 : w33.cell? ⟨gb363, 1, none⟩ = some (.int .u32 0) := (blk_cell BK363.out 1).trans rfl
              have hcz38_2 : w33.cell? ⟨gb363, 2, none⟩ = some (.string (⟨#[]⟩ : ByteArray)) := (blk_cell BK363.out 2).trans rfl
              have hcz38_3 : w33.cell? ⟨gb363, 3, none⟩ = some (.bool false) := (blk_cell BK363.out 3).trans rfl
              have hcz38_4 : w33.cell? ⟨gb363, 4, none⟩ = some (.int .u32 0) := (blk_cell BK363.out 4).trans rfl
              have hfz38_0 := blk_frozen BK363.out 0
              have hfz38_1 := blk_frozen BK363.out 1
              have hfz38_2 := blk_frozen BK363.out 2
              have hfz38_3 := blk_frozen BK363.out 3
              have hfz38_4 := blk_frozen BK363.out 4
              go_wp2
              go_meet
              case rel => exact ⟨_, (!((rd_T34 l0 t360).f3)), (by first | rfl | (simp; done) | (simp [*]; done)), H', ⟨by first | omega | exact Nat.le_refl _⟩, ⟨by (with_reducible repeat (first | refine blk_drewN ?_ _ | refine blk_drew ?_ | refine blk_alloc ?_ _)); refine blk_far ?_ NB359_363.out _; (with_reducible repeat (first | refine blk_drewN ?_ _ | refine blk_drew ?_ | refine blk_alloc ?_ _)); refine blk_far ?_ NB359_363.out _; (with_reducible repeat (first | refine blk_drewN ?_ _ | refine blk_drew ?_ | refine blk_alloc ?_ _)); refine blk_far ?_ NB359_363.out _; (with_reducible repeat (first | refine blk_drewN ?_ _ | refine blk_drew ?_ | refine blk_alloc ?_ _)); refine blk_far ?_ NB359_363.out _; (with_reducible repeat (first | refine blk_drewN ?_ _ | refine blk_drew ?_ | refine blk_alloc ?_ _)); refine blk_far ?_ NB359_363.out _; (with_reducible repeat (first | refine blk_drewN ?_ _ | refine blk_drew ?_ | refine blk_alloc ?_ _)); exact BK359.out⟩, ⟨by (with_reducible repeat (first | refine blk_drewN ?_ _ | refine blk_drew ?_ | refine blk_alloc ?_ _)); refine blk_put (cs := #[.int .u32 ((rd_T34 l0 t360).f0), .int .u32 ((rd_T34 l0 t360).f1), .string ((rd_T34 l0 t360).f2), .bool ((rd_T34 l0 t360).f3), .int .u32 0]) ?_ 4 _ rfl; (with_reducible repeat (first | refine blk_drewN ?_ _ | refine blk_drew ?_ | refine blk_alloc ?_ _)); refine blk_put (cs := #[.int .u32 ((rd_T34 l0 t360).f0), .int .u32 ((rd_T34 l0 t360).f1), .string ((rd_T34 l0 t360).f2), .bool false, .int .u32 0]) ?_ 3 _ rfl; (with_reducible repeat (first | refine blk_drewN ?_ _ | refine blk_drew ?_ | refine blk_alloc ?_ _)); refine blk_put (cs := #[.int .u32 ((rd_T34 l0 t360).f0), .int .u32 ((rd_T34 l0 t360).f1), .string (⟨#[]⟩ : ByteArray), .bool false, .int .u32 0]) ?_ 2 _ rfl; (with_reducible repeat (first | refine blk_drewN ?_ _ | refine blk_drew ?_ | refine blk_alloc ?_ _)); refine blk_put (cs := #[.int .u32 ((rd_T34 l0 t360).f0), .int .u32 0, .string (⟨#[]⟩ : ByteArray), .bool false, .int .u32 0]) ?_ 1 _ rfl; (with_reducible repeat (first | refine blk_drewN ?_ _ | refine blk_drew ?_ | refine blk_alloc ?_ _)); refine blk_put (cs := #[.int .u32 0, .int .u32 0, .string (⟨#[]⟩ : ByteArray), .bool false, .int .u32 0]) ?_ 0 _ rfl; (with_reducible repeat (first | refine blk_drewN ?_ _ | refine blk_drew ?_ | refine blk_alloc ?_ _)); exact BK363.out⟩, ⟨by repeat (first | (with_reducible first | exact HB.out | apply below_alloc | apply pw_below_drewN | apply below_drew1 | refine below_set ?_ GE359.out | refine below_set ?_ GE363.out) | exact HB.out)⟩⟩
            · replace c36 := Bool.eq_false_iff.mpr c36
              subst c36
              have H1 : (r10_Remove.j0 k l0 false t360 0 false ((rd_T34 l0 t360).f0) ((rd_T34 l0 t360).f1) ((rd_T34 l0 t360).f2) ((rd_T34 l0 t360).f3) ((rd_T34 l0 t360).f4)) = some (r1, r2, r3, r4, r5, r6, r7) := by rw [if_neg (show ¬ (false = true) by decide)] at H; exact H
              clear H
              have H := H1
              clear H1
              have H' := Aside0.mk H
              clear H
              go_wp2
              go_meet
              case rel => exact ⟨_, (false), (by first | rfl | (simp; done) | (simp [*]; done)), H', ⟨by first | omega | exact Nat.le_refl _⟩, ⟨by (with_reducible repeat (first | refine blk_drewN ?_ _ | refine blk_drew ?_ | refine blk_alloc ?_ _)); refine blk_far ?_ NB359_363.out _; (with_reducible repeat (first | refine blk_drewN ?_ _ | refine blk_drew ?_ | refine blk_alloc ?_ _)); refine blk_far ?_ NB359_363.out _; (with_reducible repeat (first | refine blk_drewN ?_ _ | refine blk_drew ?_ | refine blk_alloc ?_ _)); refine blk_far ?_ NB359_363.out _; (with_reducible repeat (first | refine blk_drewN ?_ _ | refine blk_drew ?_ | refine blk_alloc ?_ _)); refine blk_far ?_ NB359_363.out _; (with_reducible repeat (first | refine blk_drewN ?_ _ | refine blk_drew ?_ | refine blk_alloc ?_ _)); refine blk_far ?_ NB359_363.out _; (with_reducible repeat (first | refine blk_drewN ?_ _ | refine blk_drew ?_ | refine blk_alloc ?_ _)); exact BK359.out⟩, ⟨by (with_reducible repeat (first | refine blk_drewN ?_ _ | refine blk_drew ?_ | refine blk_alloc ?_ _)); refine blk_put (cs := #[.int .u32 ((rd_T34 l0 t360).f0), .int .u32 ((rd_T34 l0 t360).f1), .string ((rd_T34 l0 t360).f2), .bool ((rd_T34 l0 t360).f3), .int .u32 0]) ?_ 4 _ rfl; (with_reducible repeat (first | refine blk_drewN ?_ _ | refine blk_drew ?_ | refine blk_alloc ?_ _)); refine blk_put (cs := #[.int .u32 ((rd_T34 l0 t360).f0), .int .u32 ((rd_T34 l0 t360).f1), .string ((rd_T34 l0 t360).f2), .bool false, .int .u32 0]) ?_ 3 _ rfl; (with_reducible repeat (first | refine blk_drewN ?_ _ | refine blk_drew ?_ | refine blk_alloc ?_ _)); refine blk_put (cs := #[.int .u32 ((rd_T34 l0 t360).f0), .int .u32 ((rd_T34 l0 t360).f1), .string (⟨#[]⟩ : ByteArray), .bool false, .int .u32 0]) ?_ 2 _ rfl; (with_reducible repeat (first | refine blk_drewN ?_ _ | refine blk_drew ?_ | refine blk_alloc ?_ _)); refine blk_put (cs := #[.int .u32 ((rd_T34 l0 t360).f0), .int .u32 0, .string (⟨#[]⟩ : ByteArray), .bool false, .int .u32 0]) ?_ 1 _ rfl; (with_reducible repeat (first | refine blk_drewN ?_ _ | refine blk_drew ?_ | refine blk_alloc ?_ _)); refine blk_put (cs := #[.int .u32 0, .int .u32 0, .string (⟨#[]⟩ : ByteArray), .bool false, .int .u32 0]) ?_ 0 _ rfl; (with_reducible repeat (first | refine blk_drewN ?_ _ | refine blk_drew ?_ | refine blk_alloc ?_ _)); exact BK363.out⟩, ⟨by repeat (first | (with_reducible first | exact HB.out | apply below_alloc | apply pw_below_drewN | apply below_drew1 | refine below_set ?_ GE359.out | refine below_set ?_ GE363.out) | exact HB.out)⟩⟩
          case rest =>
            clear HC30
            try clear c1
            try clear c2
            try clear p2
            try clear c3
            try clear p3
            try clear q3
            try clear hx3
            try clear c4
            try clear c5
            try clear c5b0
            try clear c5b1
            try clear c6
            try clear c6b0
            try clear c7
            try clear c7b0
            try clear c8
            try clear c8b0
            try clear c8b1
            try clear c9
            try clear c9b0
            try clear c9b1
            try clear c14
            try clear c25
            try clear c27
            try clear c29
            try clear c34
            try clear c36
            try clear p36
            try clear q36
            try clear hx36
            try clear c37
            try clear hcz15_0
            try clear hcz15_1
            try clear hcz15_2
            try clear hcz15_3
            try clear hcz15_4
            try clear hcz28_0
            try clear hcz28_1
            try clear hcz28_2
            try clear hcz28_3
            try clear hcz28_4
            try clear hcz29_0
            try clear hcz29_1
            try clear hcz29_2
            try clear hcz29_3
            try clear hcz29_4
            try clear hcz35_0
            try clear hcz35_1
            try clear hcz35_2
            try clear hcz35_3
            try clear hcz35_4
            try clear hcz38_0
            try clear hcz38_1
            try clear hcz38_2
            try clear hcz38_3
            try clear hcz38_4
            try clear hfz15_0
            try clear hfz15_1
            try clear hfz15_2
            try clear hfz15_3
            try clear hfz15_4
            try clear hfz28_0
            try clear hfz28_1
            try clear hfz28_2
            try clear hfz28_3
            try clear hfz28_4
            try clear hfz29_0
            try clear hfz29_1
            try clear hfz29_2
            try clear hfz29_3
            try clear hfz29_4
            try clear hfz35_0
            try clear hfz35_1
            try clear hfz35_2
            try clear hfz35_3
            try clear hfz35_4
            try clear hfz38_0
            try clear hfz38_1
            try clear hfz38_2
            try clear hfz38_3
            try clear hfz38_4
            try clear hx362_0
            try clear hx362_1
            try clear hx362_2
            try clear hx362_3
            try clear hx362_4
            try clear p362
            try clear q362
            obtain ⟨kq, x29_29, rfl, HA, HJ29, BK359, BK363, HB⟩ := hcut
            cases kq with
            | zero => exact absurd HA.out (by simp [r10_Remove.j0])
            | succ kj29 =>
              have H := HA.out
              clear HA
              simp only [r10_Remove.j0] at H
              by_cases c39 : x29_29 = true
              · subst c39
                have H1 : (if 10 = 0 then ((r10_Without.f l0 t360).bind fun t367 => (some (t367, ((rd_T34 l0 t360).f0), ((rd_T34 l0 t360).f1), ((rd_T34 l0 t360).f2), ((rd_T34 l0 t360).f3), ((rd_T34 l0 t360).f4), 0))) else (some (([] : List (S34)), 0, 0, (⟨#[]⟩ : ByteArray), false, 0, 10))) = some (r1, r2, r3, r4, r5, r6, r7) := by rw [if_pos rfl] at H; exact H
                clear H
                have H := H1
                clear H1
                by_cases c40 : 10 = 0
                · exact absurd c40 (by decide)
                · rw [if_neg c40] at H
                  have c40b0 : (10 == 0) = false := beq_eq_false_iff_ne.mpr c40
                  have c40b1 : (10 != 0) = true := bne_iff_ne.mpr c40
                  simp only [Option.some.injEq, Prod.mk.injEq] at H
                  obtain ⟨rfl, rfl, rfl, rfl, rfl, rfl, rfl⟩ := H
                  have hnb49 := NB359_363.out
                  have hnc49 := NB363_359.out
                  have hcz50_0 : wc.cell? ⟨gb359, 0, none⟩ = some (.int .u32 0) := (blk_cell BK359.out 0).trans rfl
                  have hcz50_1 : wc.cell? ⟨gb359, 1, none⟩ = some (.int .u32 0) := (blk_cell BK359.out 1).trans rfl
                  have hcz50_2 : wc.cell? ⟨gb359, 2, none⟩ = some (.string (⟨#[]⟩ : ByteArray)) := (blk_cell BK359.out 2).trans rfl
                  have hcz50_3 : wc.cell? ⟨gb359, 3, none⟩ = some (.bool false) := (blk_cell BK359.out 3).trans rfl
                  have hcz50_4 : wc.cell? ⟨gb359, 4, none⟩ = some (.int .u32 0) := (blk_cell BK359.out 4).trans rfl
                  have hfz50_0 := blk_frozen BK359.out 0
                  have hfz50_1 := blk_frozen BK359.out 1
                  have hfz50_2 := blk_frozen BK359.out 2
                  have hfz50_3 := blk_frozen BK359.out 3
                  have hfz50_4 := blk_frozen BK359.out 4
                  go_wp2
                  refine bodyPost_ret (results_list (rs := [.tmp 6, .cell 7 34, .tmp 8]) rfl (by simp) (.tmp (.cell gb359 34 #[.int .u32 0, .int .u32 0, .string (⟨#[]⟩ : ByteArray), .bool false, .int .u32 0] (0, 0) _ rfl (by (with_reducible repeat (first | refine blk_drewN ?_ _ | refine blk_drew ?_ | refine blk_alloc ?_ _)); refine blk_put (cs := #[.int .u32 0, .int .u32 0, .string (⟨#[]⟩ : ByteArray), .bool false, .int .u32 0]) ?_ 4 _ rfl; (with_reducible repeat (first | refine blk_drewN ?_ _ | refine blk_drew ?_ | refine blk_alloc ?_ _)); refine blk_put (cs := #[.int .u32 0, .int .u32 0, .string (⟨#[]⟩ : ByteArray), .bool false, .int .u32 0]) ?_ 3 _ rfl; (with_reducible repeat (first | refine blk_drewN ?_ _ | refine blk_drew ?_ | refine blk_alloc ?_ _)); refine blk_put (cs := #[.int .u32 0, .int .u32 0, .string (⟨#[]⟩ : ByteArray), .bool false, .int .u32 0]) ?_ 2 _ rfl; (with_reducible repeat (first | refine blk_drewN ?_ _ | refine blk_drew ?_ | refine blk_alloc ?_ _)); refine blk_put (cs := #[.int .u32 0, .int .u32 0, .string (⟨#[]⟩ : ByteArray), .bool false, .int .u32 0]) ?_ 1 _ rfl; (with_reducible repeat (first | refine blk_drewN ?_ _ | refine blk_drew ?_ | refine blk_alloc ?_ _)); refine blk_put (cs := #[.int .u32 0, .int .u32 0, .string (⟨#[]⟩ : ByteArray), .bool false, .int .u32 0]) ?_ 0 _ rfl; (with_reducible repeat (first | refine blk_drewN ?_ _ | refine blk_drew ?_ | refine blk_alloc ?_ _)); exact BK359.out) Tryd.underlying34 rfl (by kernel_rfl) (.tmp .nil)))) rfl ?_
                  exact ⟨_, by first | rfl | (simp [errW_none, errW_some] <;> rfl) | (simp [*, errW_none, errW_some] <;> rfl), by first | exact Kd.R_nil _ _ _ _ _ | exact Kd.N_nil _ _ _ _ _ | exact Kd.V_nil _ _ _ _ _ | exact Kd.Q_nil _ _ _ _ _ | exact Kd.S_nil _ _ _ _ _, by repeat (first | (with_reducible first | exact HB.out | apply below_alloc | apply pw_below_drewN | apply below_drew1 | refine below_set ?_ GE359.out | refine below_set ?_ GE363.out) | exact HB.out)⟩
              · replace c39 := Bool.eq_false_iff.mpr c39
                subst c39
                have H1 : (if a2 = true then ((r10_Kids.f kj29 l0 ((rd_T34 l0 t360).f0)).bind fun t370 => (r10_Remove.j1 kj29 l0 a2 t360 0 (decide (t370 > 0)) ((rd_T34 l0 t360).f0) ((rd_T34 l0 t360).f1) ((rd_T34 l0 t360).f2) ((rd_T34 l0 t360).f3) ((rd_T34 l0 t360).f4))) else (r10_Remove.j1 kj29 l0 a2 t360 0 false ((rd_T34 l0 t360).f0) ((rd_T34 l0 t360).f1) ((rd_T34 l0 t360).f2) ((rd_T34 l0 t360).f3) ((rd_T34 l0 t360).f4))) = some (r1, r2, r3, r4, r5, r6, r7) := by rw [if_neg (show ¬ (false = true) by decide)] at H; exact H
                clear H
                have H := H1
                clear H1
                have HC51 := Aside0.mk H
                clear H
                go_upto_region 10 with (fail)
                go_cut [36] (fun v36 wc => ∃ (kq : Nat) (x36_50 : Bool), v36 = .bool x36_50 ∧ Aside0 (r10_Remove.j1 kq l0 a2 t360 0 x36_50 ((rd_T34 l0 t360).f0) ((rd_T34 l0 t360).f1) ((rd_T34 l0 t360).f2) ((rd_T34 l0 t360).f3) ((rd_T34 l0 t360).f4) = some (r1, r2, r3, r4, r5, r6, r7)) ∧ Aside0 (kq ≤ kj29) ∧ Aside0 (wc.heap[gb359]? = some (.cells #[.int .u32 0, .int .u32 0, .string (⟨#[]⟩ : ByteArray), .bool false, .int .u32 0] 34 (0, 0))) ∧ Aside0 (wc.heap[gb363]? = some (.cells #[.int .u32 ((rd_T34 l0 t360).f0), .int .u32 ((rd_T34 l0 t360).f1), .string ((rd_T34 l0 t360).f2), .bool ((rd_T34 l0 t360).f3), .int .u32 ((rd_T34 l0 t360).f4)] 34 (0, 0))) ∧ Aside0 (Below w.heap.size w wc))
                case first =>
                  have H := HC51.out
                  clear HC51
                  by_cases c52 : a2 = true
                  · subst c52
                    have H1 : ((r10_Kids.f kj29 l0 ((rd_T34 l0 t360).f0)).bind fun t370 => (r10_Remove.j1 kj29 l0 true t360 0 (decide (t370 > 0)) ((rd_T34 l0 t360).f0) ((rd_T34 l0 t360).f1) ((rd_T34 l0 t360).f2) ((rd_T34 l0 t360).f3) ((rd_T34 l0 t360).f4))) = some (r1, r2, r3, r4, r5, r6, r7) := by rw [if_pos rfl] at H; exact H
                    clear H
                    have H := H1
                    clear H1
                    replace H := Option.bind_eq_some_iff.mp H
                    obtain ⟨t370, A530, H⟩ := H
                    replace H : (r10_Remove.j1 kj29 l0 true t360 0 (decide (t370 > 0)) ((rd_T34 l0 t360).f0) ((rd_T34 l0 t360).f1) ((rd_T34 l0 t360).f2) ((rd_T34 l0 t360).f3) ((rd_T34 l0 t360).f4)) = some (r1, r2, r3, r4, r5, r6, r7) := H
                    have A53 := Aside0.mk A530
                    clear A530
                    have H' := Aside0.mk H
                    clear H
                    have hnb54 := NB363_359.out
                    have hnc54 := NB359_363.out
                    have hcz55_0 : wc.cell? ⟨gb363, 0, none⟩ = some (.int .u32 ((rd_T34 l0 t360).f0)) := (blk_cell BK363.out 0).trans rfl
                    have hcz55_1 : wc.cell? ⟨gb363, 1, none⟩ = some (.int .u32 ((rd_T34 l0 t360).f1)) := (blk_cell BK363.out 1).trans rfl
                    have hcz55_2 : wc.cell? ⟨gb363, 2, none⟩ = some (.string ((rd_T34 l0 t360).f2)) := (blk_cell BK363.out 2).trans rfl
                    have hcz55_3 : wc.cell? ⟨gb363, 3, none⟩ = some (.bool ((rd_T34 l0 t360).f3)) := (blk_cell BK363.out 3).trans rfl
                    have hcz55_4 : wc.cell? ⟨gb363, 4, none⟩ = some (.int .u32 ((rd_T34 l0 t360).f4)) := (blk_cell BK363.out 4).trans rfl
                    have hfz55_0 := blk_frozen BK363.out 0
                    have hfz55_1 := blk_frozen BK363.out 1
                    have hfz55_2 := blk_frozen BK363.out 2
                    have hfz55_3 := blk_frozen BK363.out 3
                    have hfz55_4 := blk_frozen BK363.out 4
                    go_wp2_with (first | (go_at_call 46; (with_reducible refine (r10_Kids.calls kj29 _ _ l0 ((rd_T34 l0 t360).f0) t370 _ ?side1 ?side2 A53.out).mono ?_); (case side1 => repeat (first | exact (Kd.C_below HR0.out HB.out) | (with_reducible refine Kd.C_alloc ?_ _) | (with_reducible refine Kd.C_drewN ?_ _) | (with_reducible refine Kd.C_drew ?_))); (case side2 => exact HC0.out); rintro e w' ⟨rfl, ⟨nd, rfl⟩⟩))
                    go_meet
                    case rel => exact ⟨_, (decide (t370 > 0)), (by first | rfl | (simp; done) | (simp [*]; done)), H', ⟨by have := HJ29.out; first | omega | exact Nat.le_refl _⟩, ⟨by (with_reducible repeat (first | refine blk_drewN ?_ _ | refine blk_drew ?_ | refine blk_alloc ?_ _)); exact BK359.out⟩, ⟨by (with_reducible repeat (first | refine blk_drewN ?_ _ | refine blk_drew ?_ | refine blk_alloc ?_ _)); exact BK363.out⟩, ⟨by repeat (first | (with_reducible first | exact HB.out | apply below_alloc | apply pw_below_drewN | apply below_drew1 | refine below_set ?_ GE359.out | refine below_set ?_ GE363.out) | exact HB.out)⟩⟩
                  · replace c52 := Bool.eq_false_iff.mpr c52
                    subst c52
                    have H1 : (r10_Remove.j1 kj29 l0 false t360 0 false ((rd_T34 l0 t360).f0) ((rd_T34 l0 t360).f1) ((rd_T34 l0 t360).f2) ((rd_T34 l0 t360).f3) ((rd_T34 l0 t360).f4)) = some (r1, r2, r3, r4, r5, r6, r7) := by rw [if_neg (show ¬ (false = true) by decide)] at H; exact H
                    clear H
                    have H := H1
                    clear H1
                    have H' := Aside0.mk H
                    clear H
                    go_wp2
                    go_meet
                    case rel => exact ⟨_, (false), (by first | rfl | (simp; done) | (simp [*]; done)), H', ⟨by have := HJ29.out; first | omega | exact Nat.le_refl _⟩, ⟨by (with_reducible repeat (first | refine blk_drewN ?_ _ | refine blk_drew ?_ | refine blk_alloc ?_ _)); exact BK359.out⟩, ⟨by (with_reducible repeat (first | refine blk_drewN ?_ _ | refine blk_drew ?_ | refine blk_alloc ?_ _)); exact BK363.out⟩, ⟨by repeat (first | (with_reducible first | exact HB.out | apply below_alloc | apply pw_below_drewN | apply below_drew1 | refine below_set ?_ GE359.out | refine below_set ?_ GE363.out) | exact HB.out)⟩⟩
                case rest =>
                  clear HC51
                  try clear c1
                  try clear c2
                  try clear p2
                  try clear c3
                  try clear p3
                  try clear q3
                  try clear hx3
                  try clear c4
                  try clear c5
                  try clear c5b0
                  try clear c5b1
                  try clear c6
                  try clear c6b0
                  try clear c7
                  try clear c7b0
                  try clear c8
                  try clear c8b0
                  try clear c8b1
                  try clear c9
                  try clear c9b0
                  try clear c9b1
                  try clear c14
                  try clear c25
                  try clear c27
                  try clear c29
                  try clear c34
                  try clear c36
                  try clear p36
                  try clear q36
                  try clear hx36
                  try clear c37
                  try clear c39
                  try clear c40
                  try clear c40b0
                  try clear c40b1
                  try clear c48
                  try clear c49
                  try clear c52
                  try clear c54
                  try clear hcz15_0
                  try clear hcz15_1
                  try clear hcz15_2
                  try clear hcz15_3
                  try clear hcz15_4
                  try clear hcz28_0
                  try clear hcz28_1
                  try clear hcz28_2
                  try clear hcz28_3
                  try clear hcz28_4
                  try clear hcz29_0
                  try clear hcz29_1
                  try clear hcz29_2
                  try clear hcz29_3
                  try clear hcz29_4
                  try clear hcz35_0
                  try clear hcz35_1
                  try clear hcz35_2
                  try clear hcz35_3
                  try clear hcz35_4
                  try clear hcz38_0
                  try clear hcz38_1
                  try clear hcz38_2
                  try clear hcz38_3
                  try clear hcz38_4
                  try clear hcz50_0
                  try clear hcz50_1
                  try clear hcz50_2
                  try clear hcz50_3
                  try clear hcz50_4
                  try clear hcz55_0
                  try clear hcz55_1
                  try clear hcz55_2
                  try clear hcz55_3
                  try clear hcz55_4
                  try clear hfz15_0
                  try clear hfz15_1
                  try clear hfz15_2
                  try clear hfz15_3
                  try clear hfz15_4
                  try clear hfz28_0
                  try clear hfz28_1
                  try clear hfz28_2
                  try clear hfz28_3
                  try clear hfz28_4
                  try clear hfz29_0
                  try clear hfz29_1
                  try clear hfz29_2
                  try clear hfz29_3
                  try clear hfz29_4
                  try clear hfz35_0
                  try clear hfz35_1
                  try clear hfz35_2
                  try clear hfz35_3
                  try clear hfz35_4
                  try clear hfz38_0
                  try clear hfz38_1
                  try clear hfz38_2
                  try clear hfz38_3
                  try clear hfz38_4
                  try clear hfz50_0
                  try clear hfz50_1
                  try clear hfz50_2
                  try clear hfz50_3
                  try clear hfz50_4
                  try clear hfz55_0
                  try clear hfz55_1
                  try clear hfz55_2
                  try clear hfz55_3
                  try clear hfz55_4
                  try clear hx362_0
                  try clear hx362_1
                  try clear hx362_2
                  try clear hx362_3
                  try clear hx362_4
                  try clear p2
                  try clear p3
                  try clear p36
                  try clear p362
                  try clear q3
                  try clear q36
                  try clear q362
                  obtain ⟨kq, x36_50, rfl, HA, HJ50, BK359, BK363, HB⟩ := hcut
                  cases kq with
                  | zero => exact absurd HA.out (by simp [r10_Remove.j1])
                  | succ kj50 =>
                    have H := HA.out
                    clear HA
                    simp only [r10_Remove.j1] at H
                    by_cases c56 : x36_50 = true
                    · subst c56
                      have H1 : (if 24 = 0 then ((r10_Without.f l0 t360).bind fun t371 => (some (t371, ((rd_T34 l0 t360).f0), ((rd_T34 l0 t360).f1), ((rd_T34 l0 t360).f2), ((rd_T34 l0 t360).f3), ((rd_T34 l0 t360).f4), 0))) else (some (([] : List (S34)), 0, 0, (⟨#[]⟩ : ByteArray), false, 0, 24))) = some (r1, r2, r3, r4, r5, r6, r7) := by rw [if_pos rfl] at H; exact H
                      clear H
                      have H := H1
                      clear H1
                      by_cases c57 : 24 = 0
                      · exact absurd c57 (by decide)
                      · rw [if_neg c57] at H
                        have c57b0 : (24 == 0) = false := beq_eq_false_iff_ne.mpr c57
                        have c57b1 : (24 != 0) = true := bne_iff_ne.mpr c57
                        simp only [Option.some.injEq, Prod.mk.injEq] at H
                        obtain ⟨rfl, rfl, rfl, rfl, rfl, rfl, rfl⟩ := H
                        have hnb66 := NB359_363.out
                        have hnc66 := NB363_359.out
                        have hcz67_0 : wc.cell? ⟨gb359, 0, none⟩ = some (.int .u32 0) := (blk_cell BK359.out 0).trans rfl
                        have hcz67_1 : wc.cell? ⟨gb359, 1, none⟩ = some (.int .u32 0) := (blk_cell BK359.out 1).trans rfl
                        have hcz67_2 : wc.cell? ⟨gb359, 2, none⟩ = some (.string (⟨#[]⟩ : ByteArray)) := (blk_cell BK359.out 2).trans rfl
                        have hcz67_3 : wc.cell? ⟨gb359, 3, none⟩ = some (.bool false) := (blk_cell BK359.out 3).trans rfl
                        have hcz67_4 : wc.cell? ⟨gb359, 4, none⟩ = some (.int .u32 0) := (blk_cell BK359.out 4).trans rfl
                        have hfz67_0 := blk_frozen BK359.out 0
                        have hfz67_1 := blk_frozen BK359.out 1
                        have hfz67_2 := blk_frozen BK359.out 2
                        have hfz67_3 := blk_frozen BK359.out 3
                        have hfz67_4 := blk_frozen BK359.out 4
                        go_wp2
                        refine bodyPost_ret (results_list (rs := [.tmp 6, .cell 7 34, .tmp 8]) rfl (by simp) (.tmp (.cell gb359 34 #[.int .u32 0, .int .u32 0, .string (⟨#[]⟩ : ByteArray), .bool false, .int .u32 0] (0, 0) _ rfl (by (with_reducible repeat (first | refine blk_drewN ?_ _ | refine blk_drew ?_ | refine blk_alloc ?_ _)); refine blk_put (cs := #[.int .u32 0, .int .u32 0, .string (⟨#[]⟩ : ByteArray), .bool false, .int .u32 0]) ?_ 4 _ rfl; (with_reducible repeat (first | refine blk_drewN ?_ _ | refine blk_drew ?_ | refine blk_alloc ?_ _)); refine blk_put (cs := #[.int .u32 0, .int .u32 0, .string (⟨#[]⟩ : ByteArray), .bool false, .int .u32 0]) ?_ 3 _ rfl; (with_reducible repeat (first | refine blk_drewN ?_ _ | refine blk_drew ?_ | refine blk_alloc ?_ _)); refine blk_put (cs := #[.int .u32 0, .int .u32 0, .string (⟨#[]⟩ : ByteArray), .bool false, .int .u32 0]) ?_ 2 _ rfl; (with_reducible repeat (first | refine blk_drewN ?_ _ | refine blk_drew ?_ | refine blk_alloc ?_ _)); refine blk_put (cs := #[.int .u32 0, .int .u32 0, .string (⟨#[]⟩ : ByteArray), .bool false, .int .u32 0]) ?_ 1 _ rfl; (with_reducible repeat (first | refine blk_drewN ?_ _ | refine blk_drew ?_ | refine blk_alloc ?_ _)); refine blk_put (cs := #[.int .u32 0, .int .u32 0, .string (⟨#[]⟩ : ByteArray), .bool false, .int .u32 0]) ?_ 0 _ rfl; (with_reducible repeat (first | refine blk_drewN ?_ _ | refine blk_drew ?_ | refine blk_alloc ?_ _)); exact BK359.out) Tryd.underlying34 rfl (by kernel_rfl) (.tmp .nil)))) rfl ?_
                        exact ⟨_, by first | rfl | (simp [errW_none, errW_some] <;> rfl) | (simp [*, errW_none, errW_some] <;> rfl), by first | exact Kd.R_nil _ _ _ _ _ | exact Kd.N_nil _ _ _ _ _ | exact Kd.V_nil _ _ _ _ _ | exact Kd.Q_nil _ _ _ _ _ | exact Kd.S_nil _ _ _ _ _, by repeat (first | (with_reducible first | exact HB.out | apply below_alloc | apply pw_below_drewN | apply below_drew1 | refine below_set ?_ GE359.out | refine below_set ?_ GE363.out) | exact HB.out)⟩
                    · replace c56 := Bool.eq_false_iff.mpr c56
                      subst c56
                      have H1 : (if a2 = true then (r10_Remove.j2 kj50 l0 t360 0 false ((rd_T34 l0 t360).f0) ((rd_T34 l0 t360).f1) ((rd_T34 l0 t360).f2) ((rd_T34 l0 t360).f3) ((rd_T34 l0 t360).f4)) else (r10_Remove.j2 kj50 l0 t360 0 ((rd_T34 l0 t360).f3) ((rd_T34 l0 t360).f0) ((rd_T34 l0 t360).f1) ((rd_T34 l0 t360).f2) ((rd_T34 l0 t360).f3) ((rd_T34 l0 t360).f4))) = some (r1, r2, r3, r4, r5, r6, r7) := by rw [if_neg (show ¬ (false = true) by decide)] at H; exact H
                      clear H
                      have H := H1
                      clear H1
                      have HC68 := Aside0.mk H
                      clear H
                      go_upto_region 12 with (fail)
                      go_cut [45] (fun v45 wc => ∃ (kq : Nat) (x45_67 : Bool), v45 = .bool x45_67 ∧ Aside0 (r10_Remove.j2 kq l0 t360 0 x45_67 ((rd_T34 l0 t360).f0) ((rd_T34 l0 t360).f1) ((rd_T34 l0 t360).f2) ((rd_T34 l0 t360).f3) ((rd_T34 l0 t360).f4) = some (r1, r2, r3, r4, r5, r6, r7)) ∧ Aside0 (kq ≤ kj50) ∧ Aside0 (wc.heap[gb359]? = some (.cells #[.int .u32 0, .int .u32 0, .string (⟨#[]⟩ : ByteArray), .bool false, .int .u32 0] 34 (0, 0))) ∧ Aside0 (wc.heap[gb363]? = some (.cells #[.int .u32 ((rd_T34 l0 t360).f0), .int .u32 ((rd_T34 l0 t360).f1), .string ((rd_T34 l0 t360).f2), .bool ((rd_T34 l0 t360).f3), .int .u32 ((rd_T34 l0 t360).f4)] 34 (0, 0))) ∧ Aside0 (Below w.heap.size w wc))
                      case first =>
                        have H := HC68.out
                        clear HC68
                        by_cases c69 : a2 = true
                        · subst c69
                          have H1 : (r10_Remove.j2 kj50 l0 t360 0 false ((rd_T34 l0 t360).f0) ((rd_T34 l0 t360).f1) ((rd_T34 l0 t360).f2) ((rd_T34 l0 t360).f3) ((rd_T34 l0 t360).f4)) = some (r1, r2, r3, r4, r5, r6, r7) := by rw [if_pos rfl] at H; exact H
                          clear H
                          have H := H1
                          clear H1
                          have H' := Aside0.mk H
                          clear H
                          go_wp2
                          go_meet
                          case rel => exact ⟨_, (false), (by first | rfl | (simp; done) | (simp [*]; done)), H', ⟨by have := HJ29.out; have := HJ50.out; first | omega | exact Nat.le_refl _⟩, ⟨by (with_reducible repeat (first | refine blk_drewN ?_ _ | refine blk_drew ?_ | refine blk_alloc ?_ _)); exact BK359.out⟩, ⟨by (with_reducible repeat (first | refine blk_drewN ?_ _ | refine blk_drew ?_ | refine blk_alloc ?_ _)); exact BK363.out⟩, ⟨by repeat (first | (with_reducible first | exact HB.out | apply below_alloc | apply pw_below_drewN | apply below_drew1 | refine below_set ?_ GE359.out | refine below_set ?_ GE363.out) | exact HB.out)⟩⟩
                        · replace c69 := Bool.eq_false_iff.mpr c69
                          subst c69
                          have H1 : (r10_Remove.j2 kj50 l0 t360 0 ((rd_T34 l0 t360).f3) ((rd_T34 l0 t360).f0) ((rd_T34 l0 t360).f1) ((rd_T34 l0 t360).f2) ((rd_T34 l0 t360).f3) ((rd_T34 l0 t360).f4)) = some (r1, r2, r3, r4, r5, r6, r7) := by rw [if_neg (show ¬ (false = true) by decide)] at H; exact H
                          clear H
                          have H := H1
                          clear H1
                          have H' := Aside0.mk H
                          clear H
                          have hnb70 := NB363_359.out
                          have hnc70 := NB359_363.out
                          have hcz71_0 : wc.cell? ⟨gb363, 0, none⟩ = some (.int .u32 ((rd_T34 l0 t360).f0)) := (blk_cell BK363.out 0).trans rfl
                          have hcz71_1 : wc.cell? ⟨gb363, 1, none⟩ = some (.int .u32 ((rd_T34 l0 t360).f1)) := (blk_cell BK363.out 1).trans rfl
                          have hcz71_2 : wc.cell? ⟨gb363, 2, none⟩ = some (.string ((rd_T34 l0 t360).f2)) := (blk_cell BK363.out 2).trans rfl
                          have hcz71_3 : wc.cell? ⟨gb363, 3, none⟩ = some (.bool ((rd_T34 l0 t360).f3)) := (blk_cell BK363.out 3).trans rfl
                          have hcz71_4 : wc.cell? ⟨gb363, 4, none⟩ = some (.int .u32 ((rd_T34 l0 t360).f4)) := (blk_cell BK363.out 4).trans rfl
                          have hfz71_0 := blk_frozen BK363.out 0
                          have hfz71_1 := blk_frozen BK363.out 1
                          have hfz71_2 := blk_frozen BK363.out 2
                          have hfz71_3 := blk_frozen BK363.out 3
                          have hfz71_4 := blk_frozen BK363.out 4
                          go_wp2
                          go_meet
                          case rel => exact ⟨_, (((rd_T34 l0 t360).f3)), (by first | rfl | (simp; done) | (simp [*]; done)), H', ⟨by have := HJ29.out; have := HJ50.out; first | omega | exact Nat.le_refl _⟩, ⟨by (with_reducible repeat (first | refine blk_drewN ?_ _ | refine blk_drew ?_ | refine blk_alloc ?_ _)); exact BK359.out⟩, ⟨by (with_reducible repeat (first | refine blk_drewN ?_ _ | refine blk_drew ?_ | refine blk_alloc ?_ _)); exact BK363.out⟩, ⟨by repeat (first | (with_reducible first | exact HB.out | apply below_alloc | apply pw_below_drewN | apply below_drew1 | refine below_set ?_ GE359.out | refine below_set ?_ GE363.out) | exact HB.out)⟩⟩
                      case rest =>
                        clear HC68
                        try clear c1
                        try clear c2
                        try clear p2
                        try clear c3
                        try clear p3
                        try clear q3
                        try clear hx3
                        try clear c4
                        try clear c5
                        try clear c5b0
                        try clear c5b1
                        try clear c6
                        try clear c6b0
                        try clear c7
                        try clear c7b0
                        try clear c8
                        try clear c8b0
                        try clear c8b1
                        try clear c9
                        try clear c9b0
                        try clear c9b1
                        try clear c14
                        try clear c25
                        try clear c27
                        try clear c29
                        try clear c34
                        try clear c36
                        try clear p36
                        try clear q36
                        try clear hx36
                        try clear c37
                        try clear c39
                        try clear c40
                        try clear c40b0
                        try clear c40b1
                        try clear c48
                        try clear c49
                        try clear c52
                        try clear c54
                        try clear c56
                        try clear c57
                        try clear c57b0
                        try clear c57b1
                        try clear c66
                        try clear c69
                        try clear c70
                        try clear hcz15_0
                        try clear hcz15_1
                        try clear hcz15_2
                        try clear hcz15_3
                        try clear hcz15_4
                        try clear hcz28_0
                        try clear hcz28_1
                        try clear hcz28_2
                        try clear hcz28_3
                        try clear hcz28_4
                        try clear hcz29_0
                        try clear hcz29_1
                        try clear hcz29_2
                        try clear hcz29_3
                        try clear hcz29_4
                        try clear hcz35_0
                        try clear hcz35_1
                        try clear hcz35_2
                        try clear hcz35_3
                        try clear hcz35_4
                        try clear hcz38_0
                        try clear hcz38_1
                        try clear hcz38_2
                        try clear hcz38_3
                        try clear hcz38_4
                        try clear hcz50_0
                        try clear hcz50_1
                        try clear hcz50_2
                        try clear hcz50_3
                        try clear hcz50_4
                        try clear hcz55_0
                        try clear hcz55_1
                        try clear hcz55_2
                        try clear hcz55_3
                        try clear hcz55_4
                        try clear hcz67_0
                        try clear hcz67_1
                        try clear hcz67_2
                        try clear hcz67_3
                        try clear hcz67_4
                        try clear hcz71_0
                        try clear hcz71_1
                        try clear hcz71_2
                        try clear hcz71_3
                        try clear hcz71_4
                        try clear hfz15_0
                        try clear hfz15_1
                        try clear hfz15_2
                        try clear hfz15_3
                        try clear hfz15_4
                        try clear hfz28_0
                        try clear hfz28_1
                        try clear hfz28_2
                        try clear hfz28_3
                        try clear hfz28_4
                        try clear hfz29_0
                        try clear hfz29_1
                        try clear hfz29_2
                        try clear hfz29_3
                        try clear hfz29_4
                        try clear hfz35_0
                        try clear hfz35_1
                        try clear hfz35_2
                        try clear hfz35_3
                        try clear hfz35_4
                        try clear hfz38_0
                        try clear hfz38_1
                        try clear hfz38_2
                        try clear hfz38_3
                        try clear hfz38_4
                        try clear hfz50_0
                        try clear hfz50_1
                        try clear hfz50_2
                        try clear hfz50_3
                        try clear hfz50_4
                        try clear hfz55_0
                        try clear hfz55_1
                        try clear hfz55_2
                        try clear hfz55_3
                        try clear hfz55_4
                        try clear hfz67_0
                        try clear hfz67_1
                        try clear hfz67_2
                        try clear hfz67_3
                        try clear hfz67_4
                        try clear hfz71_0
                        try clear hfz71_1
                        try clear hfz71_2
                        try clear hfz71_3
                        try clear hfz71_4
                        try clear hx362_0
                        try clear hx362_1
                        try clear hx362_2
                        try clear hx362_3
                        try clear hx362_4
                        try clear p2
                        try clear p3
                        try clear p36
                        try clear p362
                        try clear q3
                        try clear q36
                        try clear q362
                        obtain ⟨kq, x45_67, rfl, HA, HJ67, BK359, BK363, HB⟩ := hcut
                        cases kq with
                        | zero => exact absurd HA.out (by simp [r10_Remove.j2])
                        | succ kj67 =>
                          have H := HA.out
                          clear HA
                          simp only [r10_Remove.j2] at H
                          by_cases c72 : x45_67 = true
                          · subst c72
                            have H1 : (if 11 = 0 then ((r10_Without.f l0 t360).bind fun t374 => (some (t374, ((rd_T34 l0 t360).f0), ((rd_T34 l0 t360).f1), ((rd_T34 l0 t360).f2), ((rd_T34 l0 t360).f3), ((rd_T34 l0 t360).f4), 0))) else (some (([] : List (S34)), 0, 0, (⟨#[]⟩ : ByteArray), false, 0, 11))) = some (r1, r2, r3, r4, r5, r6, r7) := by rw [if_pos rfl] at H; exact H
                            clear H
                            have H := H1
                            clear H1
                            by_cases c73 : 11 = 0
                            · exact absurd c73 (by decide)
                            · rw [if_neg c73] at H
                              have c73b0 : (11 == 0) = false := beq_eq_false_iff_ne.mpr c73
                              have c73b1 : (11 != 0) = true := bne_iff_ne.mpr c73
                              simp only [Option.some.injEq, Prod.mk.injEq] at H
                              obtain ⟨rfl, rfl, rfl, rfl, rfl, rfl, rfl⟩ := H
                              have hnb82 := NB359_363.out
                              have hnc82 := NB363_359.out
                              have hcz83_0 : wc.cell? ⟨gb359, 0, none⟩ = some (.int .u32 0) := (blk_cell BK359.out 0).trans rfl
                              have hcz83_1 : wc.cell? ⟨gb359, 1, none⟩ = some (.int .u32 0) := (blk_cell BK359.out 1).trans rfl
                              have hcz83_2 : wc.cell? ⟨gb359, 2, none⟩ = some (.string (⟨#[]⟩ : ByteArray)) := (blk_cell BK359.out 2).trans rfl
                              have hcz83_3 : wc.cell? ⟨gb359, 3, none⟩ = some (.bool false) := (blk_cell BK359.out 3).trans rfl
                              have hcz83_4 : wc.cell? ⟨gb359, 4, none⟩ = some (.int .u32 0) := (blk_cell BK359.out 4).trans rfl
                              have hfz83_0 := blk_frozen BK359.out 0
                              have hfz83_1 := blk_frozen BK359.out 1
                              have hfz83_2 := blk_frozen BK359.out 2
                              have hfz83_3 := blk_frozen BK359.out 3
                              have hfz83_4 := blk_frozen BK359.out 4
                              go_wp2
                              refine bodyPost_ret (results_list (rs := [.tmp 6, .cell 7 34, .tmp 8]) rfl (by simp) (.tmp (.cell gb359 34 #[.int .u32 0, .int .u32 0, .string (⟨#[]⟩ : ByteArray), .bool false, .int .u32 0] (0, 0) _ rfl (by (with_reducible repeat (first | refine blk_drewN ?_ _ | refine blk_drew ?_ | refine blk_alloc ?_ _)); refine blk_put (cs := #[.int .u32 0, .int .u32 0, .string (⟨#[]⟩ : ByteArray), .bool false, .int .u32 0]) ?_ 4 _ rfl; (with_reducible repeat (first | refine blk_drewN ?_ _ | refine blk_drew ?_ | refine blk_alloc ?_ _)); refine blk_put (cs := #[.int .u32 0, .int .u32 0, .string (⟨#[]⟩ : ByteArray), .bool false, .int .u32 0]) ?_ 3 _ rfl; (with_reducible repeat (first | refine blk_drewN ?_ _ | refine blk_drew ?_ | refine blk_alloc ?_ _)); refine blk_put (cs := #[.int .u32 0, .int .u32 0, .string (⟨#[]⟩ : ByteArray), .bool false, .int .u32 0]) ?_ 2 _ rfl; (with_reducible repeat (first | refine blk_drewN ?_ _ | refine blk_drew ?_ | refine blk_alloc ?_ _)); refine blk_put (cs := #[.int .u32 0, .int .u32 0, .string (⟨#[]⟩ : ByteArray), .bool false, .int .u32 0]) ?_ 1 _ rfl; (with_reducible repeat (first | refine blk_drewN ?_ _ | refine blk_drew ?_ | refine blk_alloc ?_ _)); refine blk_put (cs := #[.int .u32 0, .int .u32 0, .string (⟨#[]⟩ : ByteArray), .bool false, .int .u32 0]) ?_ 0 _ rfl; (with_reducible repeat (first | refine blk_drewN ?_ _ | refine blk_drew ?_ | refine blk_alloc ?_ _)); exact BK359.out) Tryd.underlying34 rfl (by kernel_rfl) (.tmp .nil)))) rfl ?_
                              exact ⟨_, by first | rfl | (simp [errW_none, errW_some] <;> rfl) | (simp [*, errW_none, errW_some] <;> rfl), by first | exact Kd.R_nil _ _ _ _ _ | exact Kd.N_nil _ _ _ _ _ | exact Kd.V_nil _ _ _ _ _ | exact Kd.Q_nil _ _ _ _ _ | exact Kd.S_nil _ _ _ _ _, by repeat (first | (with_reducible first | exact HB.out | apply below_alloc | apply pw_below_drewN | apply below_drew1 | refine below_set ?_ GE359.out | refine below_set ?_ GE363.out) | exact HB.out)⟩
                          · replace c72 := Bool.eq_false_iff.mpr c72
                            subst c72
                            have H1 : (if 0 = 0 then ((r10_Without.f l0 t360).bind fun t377 => (some (t377, ((rd_T34 l0 t360).f0), ((rd_T34 l0 t360).f1), ((rd_T34 l0 t360).f2), ((rd_T34 l0 t360).f3), ((rd_T34 l0 t360).f4), 0))) else (some (([] : List (S34)), 0, 0, (⟨#[]⟩ : ByteArray), false, 0, 0))) = some (r1, r2, r3, r4, r5, r6, r7) := by rw [if_neg (show ¬ (false = true) by decide)] at H; exact H
                            clear H
                            have H := H1
                            clear H1
                            by_cases c84 : 0 = 0
                            · rw [if_pos c84] at H
                              have c84b0 : (0 == 0) = true := beq_iff_eq.mpr c84
                              have c84b1 : (0 != 0) = false := bne_eq_false_iff_eq.mpr c84
                              clear c84
                              replace H := Option.bind_eq_some_iff.mp H
                              obtain ⟨t377, A850, H⟩ := H
                              replace H : (some (t377, ((rd_T34 l0 t360).f0), ((rd_T34 l0 t360).f1), ((rd_T34 l0 t360).f2), ((rd_T34 l0 t360).f3), ((rd_T34 l0 t360).f4), 0)) = some (r1, r2, r3, r4, r5, r6, r7) := H
                              have A85 := Aside0.mk A850
                              clear A850
                              simp only [Option.some.injEq, Prod.mk.injEq] at H
                              obtain ⟨rfl, rfl, rfl, rfl, rfl, rfl, rfl⟩ := H
                              try go_wp2
                              have n0_ := Aside0.mk (blk_drew BK359.out)
                              have n1_ := Aside0.mk (blk_drew BK363.out)
                              have n2_ := Aside0.mk (below_drew1 HB.out)
                              clear BK359
                              clear BK363
                              clear HB
                              have BK359 := n0_
                              have BK363 := n1_
                              have HB := n2_
                              clear n0_ n1_ n2_
                              refine start_ (n := 7) (S := fun w' => w'.cell? ⟨gb363, 0, none⟩ = some (.int .u32 ((rd_T34 l0 t360).f0)) ∧ w'.cell? ⟨gb363, 1, none⟩ = some (.int .u32 ((rd_T34 l0 t360).f1)) ∧ w'.cell? ⟨gb363, 2, none⟩ = some (.string ((rd_T34 l0 t360).f2)) ∧ w'.cell? ⟨gb363, 3, none⟩ = some (.bool ((rd_T34 l0 t360).f3)) ∧ w'.cell? ⟨gb363, 4, none⟩ = some (.int .u32 ((rd_T34 l0 t360).f4))) (ds := []) #[false, false, false, false, false, false, false] (by kernel_rfl) rfl rfl ⟨(blk_cell BK363.out 0).trans rfl, (blk_cell BK363.out 1).trans rfl, (blk_cell BK363.out 2).trans rfl, (blk_cell BK363.out 3).trans rfl, (blk_cell BK363.out 4).trans rfl⟩ (fun hHeld => ?_)
                              generalize wc.drew = w86 at BK359 BK363 HB hHeld ⊢
                              refine pure_ (i := 0) (N := some 56) (v := ?_) (a' := ?_) #[true, false, false, false, false, false, false] rfl rfl (by kernel_rfl) (fun _ _ _ h => h) (Or.inl ⟨by rfl, ?_⟩) ?_ ?_
                              rotate_left
                              · intro w'
                                go_simp
                                with_reducible rfl
                              rotate_left
                              · simp only [Act.put, List.setIfInBounds_toArray, List.set_cons_zero, List.set_cons_succ, i64_w, i32_w]
                                rfl
                              refine pure_ (i := 1) (N := some 57) (v := ?_) (a' := ?_) #[true, true, false, false, false, false, false] rfl rfl (by kernel_rfl) (fun _ _ _ h => h) (Or.inl ⟨by rfl, ?_⟩) ?_ ?_
                              rotate_left
                              · intro w'
                                go_simp
                                with_reducible rfl
                              rotate_left
                              · simp only [Act.put, List.setIfInBounds_toArray, List.set_cons_zero, List.set_cons_succ, i64_w, i32_w]
                                rfl
                              refine take_ (i := 3) (N := some 59) (v := ?_) (a' := ?_) #[true, true, false, true, false, false, false] rfl rfl (by kernel_rfl) (fun _ _ _ h => h) (Or.inl ⟨by rfl, ?_⟩) hHeld ?_ ?_
                              rotate_left
                              · rintro w' ⟨s0, s1, s2, s3, s4⟩
                                go_simp
                                with_reducible rfl
                              rotate_left
                              · simp only [Act.put, List.setIfInBounds_toArray, List.set_cons_zero, List.set_cons_succ, i64_w, i32_w]
                                rfl
                              refine one_ (i := 2) (N := some 58) #[true, true, true, true, false, false, false] rfl rfl (by kernel_rfl) (by decide) (fun K hK => ?_)
                              refine goes_ Tryd.func48 (by kernel_rfl) rfl #[.slice (some ad362) l0.length c0, .int .i64 t360] (by rfl) rfl rfl (by (try simp only [List.map_toArray, List.map_cons, List.map_nil]); first | done | rfl | (simp only [List.length_drop, List.length_take]; rfl)) ?_
                              with_reducible refine (r10_Without.calls _ _ l0 t360 t377 _ ?side1 ?side2 A85.out).mono ?_
                              (case side1 => repeat (first | exact (Kd.C_below HR0.out HB.out) | (with_reducible refine Kd.C_alloc ?_ _) | (with_reducible refine Kd.C_drewN ?_ _) | (with_reducible refine Kd.C_drew ?_)))
                              (case side2 => exact HC0.out)
                              rintro e w87 ⟨v378, rfl, ho0, hb⟩
                              refine ⟨_, rfl, ?_⟩
                              have n0_ := Aside0.mk (Kd.R_lower (Kd.R_newB (Kd.R_newB ho0 (g := gb359) (o := .cells #[.int .u32 0, .int .u32 0, .string (⟨#[]⟩ : ByteArray), .bool false, .int .u32 0] 34 (0, 0)) (by (with_reducible repeat (first | refine blk_drewN ?_ _ | refine blk_drew ?_ | refine blk_alloc ?_ _)); exact BK359.out)) (g := gb363) (o := .cells #[.int .u32 ((rd_T34 l0 t360).f0), .int .u32 ((rd_T34 l0 t360).f1), .string ((rd_T34 l0 t360).f2), .bool ((rd_T34 l0 t360).f3), .int .u32 ((rd_T34 l0 t360).f4)] 34 (0, 0)) (by (with_reducible repeat (first | refine blk_drewN ?_ _ | refine blk_drew ?_ | refine blk_alloc ?_ _)); exact BK363.out)) (below_size (by repeat (first | (with_reducible first | exact HB.out | apply below_alloc | apply pw_below_drewN | apply below_drew1 | refine below_set ?_ GE359.out | refine below_set ?_ GE363.out) | exact HB.out))))
                              have n1_ := Aside0.mk (blk_below (g := gb359) (o := .cells #[.int .u32 0, .int .u32 0, .string (⟨#[]⟩ : ByteArray), .bool false, .int .u32 0] 34 (0, 0)) (by (with_reducible repeat (first | refine blk_drewN ?_ _ | refine blk_drew ?_ | refine blk_alloc ?_ _)); exact BK359.out) hb)
                              have n2_ := Aside0.mk (blk_below (g := gb363) (o := .cells #[.int .u32 ((rd_T34 l0 t360).f0), .int .u32 ((rd_T34 l0 t360).f1), .string ((rd_T34 l0 t360).f2), .bool ((rd_T34 l0 t360).f3), .int .u32 ((rd_T34 l0 t360).f4)] 34 (0, 0)) (by (with_reducible repeat (first | refine blk_drewN ?_ _ | refine blk_drew ?_ | refine blk_alloc ?_ _)); exact BK363.out) hb)
                              have n3_ := Aside0.mk (below_step (by repeat (first | (with_reducible first | exact HB.out | apply below_alloc | apply pw_below_drewN | apply below_drew1 | refine below_set ?_ GE359.out | refine below_set ?_ GE363.out) | exact HB.out)) hb)
                              clear BK359
                              clear BK363
                              clear HB
                              have HO379 := n0_
                              have BK359 := n1_
                              have BK363 := n2_
                              have HB := n3_
                              clear n0_ n1_ n2_ n3_
                              (try clear hb)
                              (try clear hb2)
                              (try clear hk)
                              (try clear hi)
                              (try clear ho0)
                              refine hK.out _ _ ⟨(blk_cell BK363.out 0).trans rfl, (blk_cell BK363.out 1).trans rfl, (blk_cell BK363.out 2).trans rfl, (blk_cell BK363.out 3).trans rfl, (blk_cell BK363.out 4).trans rfl⟩ (fun hHeld => ?_)
                              clear hK K
                              refine norm_ (a' := ?_) ?_ ?_
                              rotate_left
                              · show Act.put _ (some 58) _ = _
                                simp only [Act.put, List.setIfInBounds_toArray, List.set_cons_zero, List.set_cons_succ, i64_w, i32_w]
                                rfl
                              refine pure_ (i := 4) (N := some 6) (v := ?_) (a' := ?_) #[true, true, true, true, true, false, false] rfl rfl (by kernel_rfl) (fun _ _ _ h => h) (Or.inl ⟨by rfl, ?_⟩) ?_ ?_
                              rotate_left
                              · intro w'
                                go_simp
                                with_reducible rfl
                              rotate_left
                              · simp only [Act.put, List.setIfInBounds_toArray, List.set_cons_zero, List.set_cons_succ, i64_w, i32_w]
                                rfl
                              refine one_ (i := 5) (N := none) #[true, true, true, true, true, true, false] rfl rfl (by kernel_rfl) (by decide) (fun K hK => ?_)
                              have hs88 : w87.cell? ⟨gb359, 0, none⟩ = some (.int .u32 0) := (blk_cell BK359.out 0).trans rfl
                              have hfs88 := blk_frozen BK359.out 0
                              have hns88_1 := NB363_359.out
                              have hms88_1 := NB359_363.out
                              have hs89 : w87.cell? ⟨gb359, 1, none⟩ = some (.int .u32 0) := (blk_cell BK359.out 1).trans rfl
                              have hfs89 := blk_frozen BK359.out 1
                              have hns89_1 := NB363_359.out
                              have hms89_1 := NB359_363.out
                              have hs90 : w87.cell? ⟨gb359, 2, none⟩ = some (.string (⟨#[]⟩ : ByteArray)) := (blk_cell BK359.out 2).trans rfl
                              have hfs90 := blk_frozen BK359.out 2
                              have hns90_1 := NB363_359.out
                              have hms90_1 := NB359_363.out
                              have hs91 : w87.cell? ⟨gb359, 3, none⟩ = some (.bool false) := (blk_cell BK359.out 3).trans rfl
                              have hfs91 := blk_frozen BK359.out 3
                              have hns91_1 := NB363_359.out
                              have hms91_1 := NB359_363.out
                              have hs92 : w87.cell? ⟨gb359, 4, none⟩ = some (.int .u32 0) := (blk_cell BK359.out 4).trans rfl
                              have hfs92 := blk_frozen BK359.out 4
                              have hns92_1 := NB363_359.out
                              have hms92_1 := NB359_363.out
                              refine skip_ (w1 := ?_) (by rfl) rfl ?_ ?_
                              rotate_left
                              · go_simp
                                rfl
                              refine hK.out _ _ ⟨((cell_far (p := ⟨gb359, _, none⟩) NB363_359.out _).trans (((cell_far (p := ⟨gb359, _, none⟩) NB363_359.out _).trans (((cell_far (p := ⟨gb359, _, none⟩) NB363_359.out _).trans (((cell_far (p := ⟨gb359, _, none⟩) NB363_359.out _).trans (((cell_far (p := ⟨gb359, _, none⟩) NB363_359.out _).trans (hHeld.1)))))))))), ((cell_far (p := ⟨gb359, _, none⟩) NB363_359.out _).trans (((cell_far (p := ⟨gb359, _, none⟩) NB363_359.out _).trans (((cell_far (p := ⟨gb359, _, none⟩) NB363_359.out _).trans (((cell_far (p := ⟨gb359, _, none⟩) NB363_359.out _).trans (((cell_far (p := ⟨gb359, _, none⟩) NB363_359.out _).trans (hHeld.2.1)))))))))), ((cell_far (p := ⟨gb359, _, none⟩) NB363_359.out _).trans (((cell_far (p := ⟨gb359, _, none⟩) NB363_359.out _).trans (((cell_far (p := ⟨gb359, _, none⟩) NB363_359.out _).trans (((cell_far (p := ⟨gb359, _, none⟩) NB363_359.out _).trans (((cell_far (p := ⟨gb359, _, none⟩) NB363_359.out _).trans (hHeld.2.2.1)))))))))), ((cell_far (p := ⟨gb359, _, none⟩) NB363_359.out _).trans (((cell_far (p := ⟨gb359, _, none⟩) NB363_359.out _).trans (((cell_far (p := ⟨gb359, _, none⟩) NB363_359.out _).trans (((cell_far (p := ⟨gb359, _, none⟩) NB363_359.out _).trans (((cell_far (p := ⟨gb359, _, none⟩) NB363_359.out _).trans (hHeld.2.2.2.1)))))))))), ((cell_far (p := ⟨gb359, _, none⟩) NB363_359.out _).trans (((cell_far (p := ⟨gb359, _, none⟩) NB363_359.out _).trans (((cell_far (p := ⟨gb359, _, none⟩) NB363_359.out _).trans (((cell_far (p := ⟨gb359, _, none⟩) NB363_359.out _).trans (((cell_far (p := ⟨gb359, _, none⟩) NB363_359.out _).trans (hHeld.2.2.2.2))))))))))⟩ (fun hHeld => ?_)
                              clear hK K
                              refine pure_ (i := 6) (N := some 8) (v := ?_) (a' := ?_) #[true, true, true, true, true, true, true] rfl rfl (by kernel_rfl) (fun _ _ _ h => h) (Or.inl ⟨by rfl, ?_⟩) ?_ ?_
                              rotate_left
                              · intro w'
                                go_simp
                                with_reducible rfl
                              rotate_left
                              · simp only [Act.put, List.setIfInBounds_toArray, List.set_cons_zero, List.set_cons_succ, i64_w, i32_w]
                                rfl
                              refine done_ (by kernel_rfl) ?_
                              try go_wp2
                              refine bodyPost_ret (results_list (rs := [.tmp 6, .cell 7 34, .tmp 8]) rfl (by simp) (.tmp (.cell gb359 34 #[.int .u32 ((rd_T34 l0 t360).f0), .int .u32 ((rd_T34 l0 t360).f1), .string ((rd_T34 l0 t360).f2), .bool ((rd_T34 l0 t360).f3), .int .u32 ((rd_T34 l0 t360).f4)] (0, 0) _ rfl (by (with_reducible repeat (first | refine blk_drewN ?_ _ | refine blk_drew ?_ | refine blk_alloc ?_ _)); refine blk_put (cs := #[.int .u32 ((rd_T34 l0 t360).f0), .int .u32 ((rd_T34 l0 t360).f1), .string ((rd_T34 l0 t360).f2), .bool ((rd_T34 l0 t360).f3), .int .u32 0]) ?_ 4 _ rfl; (with_reducible repeat (first | refine blk_drewN ?_ _ | refine blk_drew ?_ | refine blk_alloc ?_ _)); refine blk_put (cs := #[.int .u32 ((rd_T34 l0 t360).f0), .int .u32 ((rd_T34 l0 t360).f1), .string ((rd_T34 l0 t360).f2), .bool false, .int .u32 0]) ?_ 3 _ rfl; (with_reducible repeat (first | refine blk_drewN ?_ _ | refine blk_drew ?_ | refine blk_alloc ?_ _)); refine blk_put (cs := #[.int .u32 ((rd_T34 l0 t360).f0), .int .u32 ((rd_T34 l0 t360).f1), .string (⟨#[]⟩ : ByteArray), .bool false, .int .u32 0]) ?_ 2 _ rfl; (with_reducible repeat (first | refine blk_drewN ?_ _ | refine blk_drew ?_ | refine blk_alloc ?_ _)); refine blk_put (cs := #[.int .u32 ((rd_T34 l0 t360).f0), .int .u32 0, .string (⟨#[]⟩ : ByteArray), .bool false, .int .u32 0]) ?_ 1 _ rfl; (with_reducible repeat (first | refine blk_drewN ?_ _ | refine blk_drew ?_ | refine blk_alloc ?_ _)); refine blk_put (cs := #[.int .u32 0, .int .u32 0, .string (⟨#[]⟩ : ByteArray), .bool false, .int .u32 0]) ?_ 0 _ rfl; (with_reducible repeat (first | refine blk_drewN ?_ _ | refine blk_drew ?_ | refine blk_alloc ?_ _)); exact BK359.out) Tryd.underlying34 rfl (by kernel_rfl) (.tmp .nil)))) rfl ?_
                              exact ⟨_, by first | rfl | (simp [errW_none, errW_some] <;> rfl) | (simp [*, errW_none, errW_some] <;> rfl), by (with_reducible repeat (first | apply Kd.R_alloc | apply Kd.R_drewN | apply Kd.R_drew)); exact Kd.R_mono (Kd.R_far (p := ⟨gb359, 4, none⟩) (Kd.R_far (p := ⟨gb359, 3, none⟩) (Kd.R_far (p := ⟨gb359, 2, none⟩) (Kd.R_far (p := ⟨gb359, 1, none⟩) (Kd.R_far (p := ⟨gb359, 0, none⟩) (Kd.R_mono HO379.out (fun k_ hk => (⟨hk, hk.1.2⟩ : _ ∧ k_ ≠ gb359))) (fun _ hk => hk.2) (.int .u32 ((rd_T34 l0 t360).f0))) (fun _ hk => hk.2) (.int .u32 ((rd_T34 l0 t360).f1))) (fun _ hk => hk.2) (.string ((rd_T34 l0 t360).f2))) (fun _ hk => hk.2) (.bool ((rd_T34 l0 t360).f3))) (fun _ hk => hk.2) (.int .u32 ((rd_T34 l0 t360).f4))) (fun _ hk => trivial), by repeat (first | (with_reducible first | exact HB.out | apply below_alloc | apply pw_below_drewN | apply below_drew1 | refine below_set ?_ GE359.out | refine below_set ?_ GE363.out) | exact HB.out)⟩
                            · exact absurd rfl c84
      · rw [if_neg c7] at H
        exact absurd H (by simp)
    · rw [if_neg c6] at H
      exact absurd H (by simp)
  · rw [if_neg c5] at H
    have c5b0 : (t361 == 0) = false := beq_eq_false_iff_ne.mpr c5
    have c5b1 : (t361 != 0) = true := bne_iff_ne.mpr c5
    simp only [Option.some.injEq, Prod.mk.injEq] at H
    obtain ⟨rfl, rfl, rfl, rfl, rfl, rfl, rfl⟩ := H
    go_enter Tryd.func25, Tryd.ntmps25
    go_wp2_with (first | ((with_reducible refine gate_dst (N := 7) rfl ?_); refine box_event ?hg (N := 7) ?hd (cs := #[.int .u32 0, .int .u32 0, .string (⟨#[]⟩ : ByteArray), .bool false, .int .u32 0]) (t := 34) ?hr ?_; (case hd => rfl); (case hg => rfl); (case hr => first | (go_simp; done) | (go_simp; rfl)); intro gb359 hg w95 hbox hb; have n0_ := Aside0.mk (below_step (by repeat (first | (with_reducible first | exact HB.out | apply below_alloc | apply pw_below_drewN | apply below_drew1) | exact HB.out)) hb); have n1_ := Aside0.mk (hbox); have n2_ := Aside0.mk ((by rw [hg]; exact (below_size (by repeat (first | (with_reducible first | exact HB.out | apply below_alloc | apply pw_below_drewN | apply below_drew1) | exact HB.out))) : w.heap.size ≤ gb359)); have n3_ := Aside0.mk ((by rw [hg]; exact (below_size (by repeat (first | (with_reducible first | exact HB.out | apply below_alloc | apply pw_below_drewN | apply below_drew1) | exact HB.out))) : w.heap.size ≤ gb359)); clear HB; have HB := n0_; have BK359 := n1_; have GW359 := n2_; have GE359 := n3_; clear n0_ n1_ n2_ n3_; clear hb hbox hg) | ((with_reducible refine gate_callee (f := 29) rfl ?_); refine goesL_ (some 15) rfl rfl Tryd.func29 (by kernel_rfl) rfl #[.slice A0 l0.length c0, .string a1] rfl (by (try simp only [List.map_toArray, List.map_cons, List.map_nil]); first | done | rfl | (simp only [List.length_drop, List.length_take]; rfl)) ?_; (with_reducible refine (r10_Find.calls k _ _ l0 a1 t360 t361 _ ?side1 ?side2 A4.out).mono ?_); (case side1 => repeat (first | exact (Kd.C_below HR0.out HB.out) | (with_reducible refine Kd.C_alloc ?_ _) | (with_reducible refine Kd.C_drewN ?_ _) | (with_reducible refine Kd.C_drew ?_))); (case side2 => exact HC0.out); rintro e w96 ⟨rfl, hb⟩; refine ⟨_, rfl, ?_⟩; have n0_ := Aside0.mk (blk_below (g := gb359) (o := .cells #[.int .u32 0, .int .u32 0, .string (⟨#[]⟩ : ByteArray), .bool false, .int .u32 0] 34 (0, 0)) (by (with_reducible repeat (first | refine blk_drewN ?_ _ | refine blk_drew ?_ | refine blk_alloc ?_ _)); exact BK359.out) hb); have n1_ := Aside0.mk (below_step (by repeat (first | (with_reducible first | exact HB.out | apply below_alloc | apply pw_below_drewN | apply below_drew1 | refine below_set ?_ GE359.out) | exact HB.out)) hb); clear BK359; clear HB; have BK359 := n0_; have HB := n1_; clear n0_ n1_; (try clear hb); (try clear hb2); (try clear hk); (try clear hi); have hcz97_0 : w96.cell? ⟨gb359, 0, none⟩ = some (.int .u32 0) := (blk_cell BK359.out 0).trans rfl; have hcz97_1 : w96.cell? ⟨gb359, 1, none⟩ = some (.int .u32 0) := (blk_cell BK359.out 1).trans rfl; have hcz97_2 : w96.cell? ⟨gb359, 2, none⟩ = some (.string (⟨#[]⟩ : ByteArray)) := (blk_cell BK359.out 2).trans rfl; have hcz97_3 : w96.cell? ⟨gb359, 3, none⟩ = some (.bool false) := (blk_cell BK359.out 3).trans rfl; have hcz97_4 : w96.cell? ⟨gb359, 4, none⟩ = some (.int .u32 0) := (blk_cell BK359.out 4).trans rfl; have hfz97_0 := blk_frozen BK359.out 0; have hfz97_1 := blk_frozen BK359.out 1; have hfz97_2 := blk_frozen BK359.out 2; have hfz97_3 := blk_frozen BK359.out 3; have hfz97_4 := blk_frozen BK359.out 4))
    refine bodyPost_ret (results_list (rs := [.tmp 6, .cell 7 34, .tmp 8]) rfl (by simp) (.tmp (.cell gb359 34 #[.int .u32 0, .int .u32 0, .string (⟨#[]⟩ : ByteArray), .bool false, .int .u32 0] (0, 0) _ rfl (by (with_reducible repeat (first | refine blk_drewN ?_ _ | refine blk_drew ?_ | refine blk_alloc ?_ _)); refine blk_put (cs := #[.int .u32 0, .int .u32 0, .string (⟨#[]⟩ : ByteArray), .bool false, .int .u32 0]) ?_ 4 _ rfl; (with_reducible repeat (first | refine blk_drewN ?_ _ | refine blk_drew ?_ | refine blk_alloc ?_ _)); refine blk_put (cs := #[.int .u32 0, .int .u32 0, .string (⟨#[]⟩ : ByteArray), .bool false, .int .u32 0]) ?_ 3 _ rfl; (with_reducible repeat (first | refine blk_drewN ?_ _ | refine blk_drew ?_ | refine blk_alloc ?_ _)); refine blk_put (cs := #[.int .u32 0, .int .u32 0, .string (⟨#[]⟩ : ByteArray), .bool false, .int .u32 0]) ?_ 2 _ rfl; (with_reducible repeat (first | refine blk_drewN ?_ _ | refine blk_drew ?_ | refine blk_alloc ?_ _)); refine blk_put (cs := #[.int .u32 0, .int .u32 0, .string (⟨#[]⟩ : ByteArray), .bool false, .int .u32 0]) ?_ 1 _ rfl; (with_reducible repeat (first | refine blk_drewN ?_ _ | refine blk_drew ?_ | refine blk_alloc ?_ _)); refine blk_put (cs := #[.int .u32 0, .int .u32 0, .string (⟨#[]⟩ : ByteArray), .bool false, .int .u32 0]) ?_ 0 _ rfl; (with_reducible repeat (first | refine blk_drewN ?_ _ | refine blk_drew ?_ | refine blk_alloc ?_ _)); exact BK359.out) Tryd.underlying34 rfl (by kernel_rfl) (.tmp .nil)))) rfl ?_
    exact ⟨_, by first | rfl | (simp [errW_none, errW_some] <;> rfl) | (simp [*, errW_none, errW_some] <;> rfl), by first | exact Kd.R_nil _ _ _ _ _ | exact Kd.N_nil _ _ _ _ _ | exact Kd.V_nil _ _ _ _ _ | exact Kd.Q_nil _ _ _ _ _ | exact Kd.S_nil _ _ _ _ _, by repeat (first | (with_reducible first | exact HB.out | apply below_alloc | apply pw_below_drewN | apply below_drew1 | refine below_set ?_ GE359.out) | exact HB.out)⟩

end Go.Proofs.YthbdgahmlggpmaaDoor.Q
