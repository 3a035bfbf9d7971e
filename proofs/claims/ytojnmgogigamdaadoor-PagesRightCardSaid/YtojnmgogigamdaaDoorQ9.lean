-- Printed by wip/pr.py of this work, over the kit's print, with functions proved by hand in their places.
import Derived.Test.YtojnmgogigamdaaDoorQ0
import Derived.Test.YtojnmgogigamdaaDoorQ4
import Derived.Test.YtojnmgogigamdaaDoorQ5
import Derived.Test.YtojnmgogigamdaaDoorQ6
import Derived.Test.YtojnmgogigamdaaDoorQ7
import Derived.Test.YtojnmgogigamdaaDoorQ8
import Derived.Test.YtojnmgogigamdaaDoorH2
namespace Go.Proofs.YtojnmgogigamdaaDoor.Q
open Go.RowKit Go.Proofs.YtojnmgogigamdaaDoorW.PrintWords Go.Proofs.YtojnmgogigamdaaDoorW.PrintLast Go.Proofs.YtojnmgogigamdaaDoorW.PrintMore
attribute [local go_sem] max2_int min2_int max_two min_two max_three min_three max_four min_four   -- for this text's walks alone
set_option linter.unusedVariables false
set_option linter.unusedSimpArgs false

/-! ### w7_PagesRight: function 3 -/
mutual
def w7_PagesRight.j0 : Nat → List (S45) → Int → Int → Bool → Int → Int → ByteArray → Int → Bool → Option (Bool)
  | 0, _, _, _, _, _, _, _, _, _ => none
  | k + 1, x0, x1, x2, x7, x8, x9, x10, x11, x44 => if x44 = true then (some false) else (if x7 = true then ((r7_Length.f k x0).bind fun t145 => (if x8 = t145 then (w7_PagesRight.j1 k x0 x1 x2 x10 x11 (x9 != 0)) else (w7_PagesRight.j1 k x0 x1 x2 x10 x11 true))) else (if x8 = 0 then (if x9 = 1 then (if x10.toList = ([] : List UInt8) then (some (x11 == 1)) else (some false)) else (some false)) else (some false)))
def w7_PagesRight.j1 : Nat → List (S45) → Int → Int → ByteArray → Int → Bool → Option (Bool)
  | 0, _, _, _, _, _, _ => none
  | k + 1, x0, x1, x2, x10, x11, x68 => if x68 = true then (some false) else ((r7_In.f x1 x2).bind fun t146 => (if t146 = true then ((r7_Bytes.f k x0 x1 x2).bind fun t147 => (if x10.toList = t147.toList then (some (x11 == 0)) else (some false))) else (if x10.toList = ([] : List UInt8) then (some (x11 == 1)) else (some false))))
end
def w7_PagesRight.f (k : Nat) (l0 : List (S45)) (a1 : Int) (a2 : Int) : Option (Bool) := (w7_alive.f k).bind fun t135 => (if t135 = true then (if (l0.length : Int) > 200 then ((w7_alive.f k).bind fun t136 => (if t136 = true then ((pages_Right.f k l0).bind fun t137 => (some (!t137))) else (some false))) else ((r7_Right.f k l0).bind fun t138 => ((pages_Length.f k l0).bind fun bt139 => ((pages_Bytes.f k l0 a1 a2).bind fun bt141 => ((w7_alive.f k).bind fun t143 => (if t143 = true then ((pages_Right.f k l0).bind fun t144 => (w7_PagesRight.j0 k l0 a1 a2 t138 bt139.1 bt139.2 bt141.1 bt141.2 (t144 != t138))) else (w7_PagesRight.j0 k l0 a1 a2 t138 bt139.1 bt139.2 bt141.1 bt141.2 true))))))) else (some false))
theorem w7_PagesRight.mono_l : ∀ k, (∀ y0 y1 y2 y3 y4 y5 y6 y7 y8, LeO (w7_PagesRight.j0 k y0 y1 y2 y3 y4 y5 y6 y7 y8) (w7_PagesRight.j0 (k + 1) y0 y1 y2 y3 y4 y5 y6 y7 y8)) ∧ (∀ y0 y1 y2 y3 y4 y5, LeO (w7_PagesRight.j1 k y0 y1 y2 y3 y4 y5) (w7_PagesRight.j1 (k + 1) y0 y1 y2 y3 y4 y5))
  | 0 => ⟨fun _ _ _ _ _ _ _ _ _ r h => by simp [w7_PagesRight.j0] at h, fun _ _ _ _ _ _ r h => by simp [w7_PagesRight.j1] at h⟩
  | k + 1 => by
    obtain ⟨ih0, ih1⟩ := w7_PagesRight.mono_l k
    refine ⟨?_, ?_⟩
    · intro y0 y1 y2 y3 y4 y5 y6 y7 y8
      unfold w7_PagesRight.j0
      repeat' first
      | (with_reducible exact ih0 _ _ _ _ _ _ _ _ _)
      | (with_reducible exact ih1 _ _ _ _ _ _)
      | (with_reducible exact w7_alive.mono _)
      | (with_reducible exact r7_Bytes.mono _ _ _ _)
      | (with_reducible exact r7_Length.mono _ _)
      | (with_reducible exact r7_Right.mono _ _)
      | (with_reducible exact pages_Bytes.mono _ _ _ _)
      | (with_reducible exact pages_Length.mono _ _)
      | (with_reducible exact pages_Right.mono _ _)
      | (with_reducible exact LeO.refl _)
      | (with_reducible exact LeO.none _)
      | (with_reducible refine LeO.ite ?_ ?_)
      | (with_reducible refine LeO.bind ?_ (fun _ => ?_))
      | exact ih0 _ _ _ _ _ _ _ _ _
      | exact ih1 _ _ _ _ _ _
      | exact w7_alive.mono _
      | exact r7_Bytes.mono _ _ _ _
      | exact r7_Length.mono _ _
      | exact r7_Right.mono _ _
      | exact pages_Bytes.mono _ _ _ _
      | exact pages_Length.mono _ _
      | exact pages_Right.mono _ _
      | exact LeO.none _
      | refine LeO.ite ?_ ?_
      | refine LeO.bind ?_ (fun _ => ?_)
    · intro y0 y1 y2 y3 y4 y5
      unfold w7_PagesRight.j1
      repeat' first
      | (with_reducible exact ih0 _ _ _ _ _ _ _ _ _)
      | (with_reducible exact ih1 _ _ _ _ _ _)
      | (with_reducible exact w7_alive.mono _)
      | (with_reducible exact r7_Bytes.mono _ _ _ _)
      | (with_reducible exact r7_Length.mono _ _)
      | (with_reducible exact r7_Right.mono _ _)
      | (with_reducible exact pages_Bytes.mono _ _ _ _)
      | (with_reducible exact pages_Length.mono _ _)
      | (with_reducible exact pages_Right.mono _ _)
      | (with_reducible exact LeO.refl _)
      | (with_reducible exact LeO.none _)
      | (with_reducible refine LeO.ite ?_ ?_)
      | (with_reducible refine LeO.bind ?_ (fun _ => ?_))
      | exact ih0 _ _ _ _ _ _ _ _ _
      | exact ih1 _ _ _ _ _ _
      | exact w7_alive.mono _
      | exact r7_Bytes.mono _ _ _ _
      | exact r7_Length.mono _ _
      | exact r7_Right.mono _ _
      | exact pages_Bytes.mono _ _ _ _
      | exact pages_Length.mono _ _
      | exact pages_Right.mono _ _
      | exact LeO.none _
      | refine LeO.ite ?_ ?_
      | refine LeO.bind ?_ (fun _ => ?_)
theorem w7_PagesRight.mono : ∀ a0 a1 a2 k, LeO (w7_PagesRight.f k a0 a1 a2) (w7_PagesRight.f (k + 1) a0 a1 a2) := by
  intro a0 a1 a2 k
  obtain ⟨ih0, ih1⟩ := w7_PagesRight.mono_l k
  unfold w7_PagesRight.f
  repeat' first
      | (with_reducible exact ih0 _ _ _ _ _ _ _ _ _)
      | (with_reducible exact ih1 _ _ _ _ _ _)
      | (with_reducible exact w7_alive.mono _)
      | (with_reducible exact r7_Bytes.mono _ _ _ _)
      | (with_reducible exact r7_Length.mono _ _)
      | (with_reducible exact r7_Right.mono _ _)
      | (with_reducible exact pages_Bytes.mono _ _ _ _)
      | (with_reducible exact pages_Length.mono _ _)
      | (with_reducible exact pages_Right.mono _ _)
      | (with_reducible exact LeO.refl _)
      | (with_reducible exact LeO.none _)
      | (with_reducible refine LeO.ite ?_ ?_)
      | (with_reducible refine LeO.bind ?_ (fun _ => ?_))
      | exact ih0 _ _ _ _ _ _ _ _ _
      | exact ih1 _ _ _ _ _ _
      | exact w7_alive.mono _
      | exact r7_Bytes.mono _ _ _ _
      | exact r7_Length.mono _ _
      | exact r7_Right.mono _ _
      | exact pages_Bytes.mono _ _ _ _
      | exact pages_Length.mono _ _
      | exact pages_Right.mono _ _
      | exact LeO.none _
      | refine LeO.ite ?_ ?_
      | refine LeO.bind ?_ (fun _ => ?_)
set_option maxHeartbeats 8000000 in
set_option maxRecDepth 100000 in
theorem w7_PagesRight.calls (k : Nat) (A0 : Option Addr) (c0 : Nat) (l0 : List (S45)) (a1 : Int) (a2 : Int) (r : Bool) (w : World) (hr0 : Kd.C k45 w A0 l0.length l0) (hc0 : l0.length ≤ c0) (h : w7_PagesRight.f k l0 a1 a2 = some r) :
    Calls Tryd.prog 3 #[.slice A0 l0.length c0, .int .i64 a1, .int .i64 a2] w fun e w' => e = .returned (.bool r) ∧ Below w.heap.size w w' := by
  have HR0 := Aside0.mk hr0
  have HC0 := Aside0.mk hc0
  clear hr0 hc0
  have HB := Aside0.mk (Below.refl w.heap.size w)
  have H : ((w7_alive.f k).bind fun t135 => (if t135 = true then (if (l0.length : Int) > 200 then ((w7_alive.f k).bind fun t136 => (if t136 = true then ((pages_Right.f k l0).bind fun t137 => (some (!t137))) else (some false))) else ((r7_Right.f k l0).bind fun t138 => ((pages_Length.f k l0).bind fun bt139 => ((pages_Bytes.f k l0 a1 a2).bind fun bt141 => ((w7_alive.f k).bind fun t143 => (if t143 = true then ((pages_Right.f k l0).bind fun t144 => (w7_PagesRight.j0 k l0 a1 a2 t138 bt139.1 bt139.2 bt141.1 bt141.2 (t144 != t138))) else (w7_PagesRight.j0 k l0 a1 a2 t138 bt139.1 bt139.2 bt141.1 bt141.2 true))))))) else (some false))) = some r := h
  clear h
  replace H := Option.bind_eq_some_iff.mp H
  obtain ⟨t135, A40, H⟩ := H
  replace H : (if t135 = true then (if (l0.length : Int) > 200 then ((w7_alive.f k).bind fun t136 => (if t136 = true then ((pages_Right.f k l0).bind fun t137 => (some (!t137))) else (some false))) else ((r7_Right.f k l0).bind fun t138 => ((pages_Length.f k l0).bind fun bt139 => ((pages_Bytes.f k l0 a1 a2).bind fun bt141 => ((w7_alive.f k).bind fun t143 => (if t143 = true then ((pages_Right.f k l0).bind fun t144 => (w7_PagesRight.j0 k l0 a1 a2 t138 bt139.1 bt139.2 bt141.1 bt141.2 (t144 != t138))) else (w7_PagesRight.j0 k l0 a1 a2 t138 bt139.1 bt139.2 bt141.1 bt141.2 true))))))) else (some false)) = some r := H
  have A4 := Aside0.mk A40
  clear A40
  by_cases c5 : t135 = true
  · subst c5
    have H1 : (if (l0.length : Int) > 200 then ((w7_alive.f k).bind fun t136 => (if t136 = true then ((pages_Right.f k l0).bind fun t137 => (some (!t137))) else (some false))) else ((r7_Right.f k l0).bind fun t138 => ((pages_Length.f k l0).bind fun bt139 => ((pages_Bytes.f k l0 a1 a2).bind fun bt141 => ((w7_alive.f k).bind fun t143 => (if t143 = true then ((pages_Right.f k l0).bind fun t144 => (w7_PagesRight.j0 k l0 a1 a2 t138 bt139.1 bt139.2 bt141.1 bt141.2 (t144 != t138))) else (w7_PagesRight.j0 k l0 a1 a2 t138 bt139.1 bt139.2 bt141.1 bt141.2 true))))))) = some r := by rw [if_pos rfl] at H; exact H
    clear H
    have H := H1
    clear H1
    by_cases c6 : (l0.length : Int) > 200
    · rw [if_pos c6] at H
      have c6b0 : decide (200 < (l0.length : Int)) = true := decide_eq_true c6
      have c6b1 : decide (200 < l0.length) = true := decide_eq_true (by omega)
      clear c6
      replace H := Option.bind_eq_some_iff.mp H
      obtain ⟨t136, A70, H⟩ := H
      replace H : (if t136 = true then ((pages_Right.f k l0).bind fun t137 => (some (!t137))) else (some false)) = some r := H
      have A7 := Aside0.mk A70
      clear A70
      by_cases c8 : t136 = true
      · subst c8
        have H1 : ((pages_Right.f k l0).bind fun t137 => (some (!t137))) = some r := by rw [if_pos rfl] at H; exact H
        clear H
        have H := H1
        clear H1
        replace H := Option.bind_eq_some_iff.mp H
        obtain ⟨t137, A90, H⟩ := H
        replace H : (some (!t137)) = some r := H
        have A9 := Aside0.mk A90
        clear A90
        obtain rfl := Option.some.inj H
        go_enter Tryd.func3, Tryd.ntmps3
        go_wp2_with (first | ((with_reducible refine gate_callee (f := 10) rfl ?_); refine goesL_ (some 12) rfl rfl Tryd.func10 (by kernel_rfl) rfl #[] rfl (by (try simp only [List.map_toArray, List.map_cons, List.map_nil]); first | done | rfl | (simp only [List.length_drop, List.length_take]; rfl)) ?_; (with_reducible refine (w7_alive.calls k  true _ A4.out).mono ?_); rintro e w10 ⟨rfl, hb⟩; refine ⟨_, rfl, ?_⟩; have n0_ := Aside0.mk (below_step (by repeat (first | (with_reducible first | exact HB.out | apply below_alloc | apply pw_below_drewN | apply below_drew1) | exact HB.out)) hb); clear HB; have HB := n0_; clear n0_; (try clear hb); (try clear hb2); (try clear hk); (try clear hi)) | ((with_reducible refine gate_callee (f := 10) rfl ?_); refine goesL_ (some 17) rfl rfl Tryd.func10 (by kernel_rfl) rfl #[] rfl (by (try simp only [List.map_toArray, List.map_cons, List.map_nil]); first | done | rfl | (simp only [List.length_drop, List.length_take]; rfl)) ?_; (with_reducible refine (w7_alive.calls k  true _ A7.out).mono ?_); rintro e w11 ⟨rfl, hb⟩; refine ⟨_, rfl, ?_⟩; have n0_ := Aside0.mk (below_step (by repeat (first | (with_reducible first | exact HB.out | apply below_alloc | apply pw_below_drewN | apply below_drew1) | exact HB.out)) hb); clear HB; have HB := n0_; clear n0_; (try clear hb); (try clear hb2); (try clear hk); (try clear hi)) | (go_at_call 11; (with_reducible refine (pages_Right.calls k _ _ l0 t137 _ ?side1 ?side2 A9.out).mono ?_); (case side1 => repeat (first | exact (Kd.C_below HR0.out HB.out) | (with_reducible refine Kd.C_alloc ?_ _) | (with_reducible refine Kd.C_drewN ?_ _) | (with_reducible refine Kd.C_drew ?_))); (case side2 => exact HC0.out); rintro e w12 ⟨rfl, hb⟩; have n0_ := Aside0.mk (below_step (by repeat (first | (with_reducible first | exact HB.out | apply below_alloc | apply pw_below_drewN | apply below_drew1) | exact HB.out)) hb); clear HB; have HB := n0_; clear n0_; (try clear hb); (try clear hb2); (try clear hk); (try clear hi)))
        go_ret
        exact ⟨by first | rfl | (simp [errW_none, errW_some] <;> rfl) | (simp [*, errW_none, errW_some] <;> rfl), by repeat (first | (with_reducible first | exact HB.out | apply below_alloc | apply pw_below_drewN | apply below_drew1) | exact HB.out)⟩
      · replace c8 := Bool.eq_false_iff.mpr c8
        subst c8
        have H1 : (some false) = some r := by rw [if_neg (show ¬ (false = true) by decide)] at H; exact H
        clear H
        have H := H1
        clear H1
        obtain rfl := Option.some.inj H
        go_enter Tryd.func3, Tryd.ntmps3
        go_wp2_with (first | ((with_reducible refine gate_callee (f := 10) rfl ?_); refine goesL_ (some 12) rfl rfl Tryd.func10 (by kernel_rfl) rfl #[] rfl (by (try simp only [List.map_toArray, List.map_cons, List.map_nil]); first | done | rfl | (simp only [List.length_drop, List.length_take]; rfl)) ?_; (with_reducible refine (w7_alive.calls k  true _ A4.out).mono ?_); rintro e w13 ⟨rfl, hb⟩; refine ⟨_, rfl, ?_⟩; have n0_ := Aside0.mk (below_step (by repeat (first | (with_reducible first | exact HB.out | apply below_alloc | apply pw_below_drewN | apply below_drew1) | exact HB.out)) hb); clear HB; have HB := n0_; clear n0_; (try clear hb); (try clear hb2); (try clear hk); (try clear hi)) | ((with_reducible refine gate_callee (f := 10) rfl ?_); refine goesL_ (some 17) rfl rfl Tryd.func10 (by kernel_rfl) rfl #[] rfl (by (try simp only [List.map_toArray, List.map_cons, List.map_nil]); first | done | rfl | (simp only [List.length_drop, List.length_take]; rfl)) ?_; (with_reducible refine (w7_alive.calls k  false _ A7.out).mono ?_); rintro e w14 ⟨rfl, hb⟩; refine ⟨_, rfl, ?_⟩; have n0_ := Aside0.mk (below_step (by repeat (first | (with_reducible first | exact HB.out | apply below_alloc | apply pw_below_drewN | apply below_drew1) | exact HB.out)) hb); clear HB; have HB := n0_; clear n0_; (try clear hb); (try clear hb2); (try clear hk); (try clear hi)))
        go_ret
        exact ⟨by first | rfl | (simp [errW_none, errW_some] <;> rfl) | (simp [*, errW_none, errW_some] <;> rfl), by repeat (first | (with_reducible first | exact HB.out | apply below_alloc | apply pw_below_drewN | apply below_drew1) | exact HB.out)⟩
    · rw [if_neg c6] at H
      have c6b0 : decide (200 < (l0.length : Int)) = false := decide_eq_false c6
      have c6b1 : decide (200 < l0.length) = false := decide_eq_false (by omega)
      clear c6
      replace H := Option.bind_eq_some_iff.mp H
      obtain ⟨t138, A150, H⟩ := H
      replace H : ((pages_Length.f k l0).bind fun bt139 => ((pages_Bytes.f k l0 a1 a2).bind fun bt141 => ((w7_alive.f k).bind fun t143 => (if t143 = true then ((pages_Right.f k l0).bind fun t144 => (w7_PagesRight.j0 k l0 a1 a2 t138 bt139.1 bt139.2 bt141.1 bt141.2 (t144 != t138))) else (w7_PagesRight.j0 k l0 a1 a2 t138 bt139.1 bt139.2 bt141.1 bt141.2 true))))) = some r := H
      have A15 := Aside0.mk A150
      clear A150
      replace H := Option.bind_eq_some_iff.mp H
      obtain ⟨⟨t139, t140⟩, A160, H⟩ := H
      replace H : ((pages_Bytes.f k l0 a1 a2).bind fun bt141 => ((w7_alive.f k).bind fun t143 => (if t143 = true then ((pages_Right.f k l0).bind fun t144 => (w7_PagesRight.j0 k l0 a1 a2 t138 t139 t140 bt141.1 bt141.2 (t144 != t138))) else (w7_PagesRight.j0 k l0 a1 a2 t138 t139 t140 bt141.1 bt141.2 true)))) = some r := H
      have A16 := Aside0.mk A160
      clear A160
      replace H := Option.bind_eq_some_iff.mp H
      obtain ⟨⟨t141, t142⟩, A170, H⟩ := H
      replace H : ((w7_alive.f k).bind fun t143 => (if t143 = true then ((pages_Right.f k l0).bind fun t144 => (w7_PagesRight.j0 k l0 a1 a2 t138 t139 t140 t141 t142 (t144 != t138))) else (w7_PagesRight.j0 k l0 a1 a2 t138 t139 t140 t141 t142 true))) = some r := H
      have A17 := Aside0.mk A170
      clear A170
      have HC18 := Aside0.mk H
      clear H
      go_enter Tryd.func3, Tryd.ntmps3
      go_upto_region 8 with (first | ((with_reducible refine gate_callee (f := 10) rfl ?_); refine goesL_ (some 12) rfl rfl Tryd.func10 (by kernel_rfl) rfl #[] rfl (by (try simp only [List.map_toArray, List.map_cons, List.map_nil]); first | done | rfl | (simp only [List.length_drop, List.length_take]; rfl)) ?_; (with_reducible refine (w7_alive.calls k  true _ A4.out).mono ?_); rintro e w19 ⟨rfl, hb⟩; refine ⟨_, rfl, ?_⟩; have n0_ := Aside0.mk (below_step (by repeat (first | (with_reducible first | exact HB.out | apply below_alloc | apply pw_below_drewN | apply below_drew1) | exact HB.out)) hb); clear HB; have HB := n0_; clear n0_; (try clear hb); (try clear hb2); (try clear hk); (try clear hi)) | ((with_reducible refine gate_callee (f := 12) rfl ?_); refine goesL_ (some 24) rfl rfl Tryd.func12 (by kernel_rfl) rfl #[.slice A0 l0.length c0] rfl (by (try simp only [List.map_toArray, List.map_cons, List.map_nil]); first | done | rfl | (simp only [List.length_drop, List.length_take]; rfl)) ?_; (with_reducible refine (r7_Right.calls k _ _ l0 t138 _ ?side1 ?side2 A15.out).mono ?_); (case side1 => repeat (first | exact (Kd.C_below HR0.out HB.out) | (with_reducible refine Kd.C_alloc ?_ _) | (with_reducible refine Kd.C_drewN ?_ _) | (with_reducible refine Kd.C_drew ?_))); (case side2 => exact HC0.out); rintro e w' ⟨rfl, ⟨nd, rfl⟩⟩; refine ⟨_, rfl, ?_⟩) | ((with_reducible refine gate_callee (f := 13) rfl ?_); refine goesL_ (some 27) rfl rfl Tryd.func13 (by kernel_rfl) rfl #[.slice A0 l0.length c0] rfl (by (try simp only [List.map_toArray, List.map_cons, List.map_nil]); first | done | rfl | (simp only [List.length_drop, List.length_take]; rfl)) ?_; (with_reducible refine (pages_Length.calls k _ _ l0 t139 t140 _ ?side1 ?side2 A16.out).mono ?_); (case side1 => repeat (first | exact (Kd.C_below HR0.out (by repeat (first | (with_reducible first | exact HB.out | apply below_alloc | apply pw_below_drewN | apply below_drew1) | exact HB.out))) | (with_reducible refine Kd.C_alloc ?_ _) | (with_reducible refine Kd.C_drewN ?_ _) | (with_reducible refine Kd.C_drew ?_))); (case side2 => exact HC0.out); rintro e w20 ⟨rfl, hb⟩; refine ⟨_, rfl, ?_⟩; have n0_ := Aside0.mk (below_step (by repeat (first | (with_reducible first | exact HB.out | apply below_alloc | apply pw_below_drewN | apply below_drew1) | exact HB.out)) hb); clear HB; have HB := n0_; clear n0_; (try clear hb); (try clear hb2); (try clear hk); (try clear hi)) | ((with_reducible refine gate_callee (f := 14) rfl ?_); refine goesL_ (some 34) rfl rfl Tryd.func14 (by kernel_rfl) rfl #[.slice A0 l0.length c0, .int .i64 a1, .int .i64 a2] rfl (by (try simp only [List.map_toArray, List.map_cons, List.map_nil]); first | done | rfl | (simp only [List.length_drop, List.length_take]; rfl)) ?_; (with_reducible refine (pages_Bytes.calls k _ _ l0 a1 a2 t141 t142 _ ?side1 ?side2 A17.out).mono ?_); (case side1 => repeat (first | exact (Kd.C_below HR0.out HB.out) | (with_reducible refine Kd.C_alloc ?_ _) | (with_reducible refine Kd.C_drewN ?_ _) | (with_reducible refine Kd.C_drew ?_))); (case side2 => exact HC0.out); rintro e w21 ⟨rfl, hb⟩; refine ⟨_, rfl, ?_⟩; have n0_ := Aside0.mk (below_step (by repeat (first | (with_reducible first | exact HB.out | apply below_alloc | apply pw_below_drewN | apply below_drew1) | exact HB.out)) hb); clear HB; have HB := n0_; clear n0_; (try clear hb); (try clear hb2); (try clear hk); (try clear hi)))
      (try simp only [Act.put, List.setIfInBounds_toArray, List.set_cons_zero, List.set_cons_succ])
      go_cut [44] (fun v44 wc => ∃ (kq : Nat) (x44_17 : Bool), v44 = .bool x44_17 ∧ Aside0 (w7_PagesRight.j0 kq l0 a1 a2 t138 t139 t140 t141 t142 x44_17 = some r) ∧ Aside0 (kq ≤ k) ∧ Aside0 (Below w.heap.size w wc))
      case first =>
        have H := HC18.out
        clear HC18
        replace H := Option.bind_eq_some_iff.mp H
        obtain ⟨t143, A220, H⟩ := H
        replace H : (if t143 = true then ((pages_Right.f k l0).bind fun t144 => (w7_PagesRight.j0 k l0 a1 a2 t138 t139 t140 t141 t142 (t144 != t138))) else (w7_PagesRight.j0 k l0 a1 a2 t138 t139 t140 t141 t142 true)) = some r := H
        have A22 := Aside0.mk A220
        clear A220
        by_cases c23 : t143 = true
        · subst c23
          have H1 : ((pages_Right.f k l0).bind fun t144 => (w7_PagesRight.j0 k l0 a1 a2 t138 t139 t140 t141 t142 (t144 != t138))) = some r := by rw [if_pos rfl] at H; exact H
          clear H
          have H := H1
          clear H1
          replace H := Option.bind_eq_some_iff.mp H
          obtain ⟨t144, A240, H⟩ := H
          replace H : (w7_PagesRight.j0 k l0 a1 a2 t138 t139 t140 t141 t142 (t144 != t138)) = some r := H
          have A24 := Aside0.mk A240
          clear A240
          have H' := Aside0.mk H
          clear H
          go_wp2_with (first | ((with_reducible refine gate_callee (f := 10) rfl ?_); refine goesL_ (some 37) rfl rfl Tryd.func10 (by kernel_rfl) rfl #[] rfl (by (try simp only [List.map_toArray, List.map_cons, List.map_nil]); first | done | rfl | (simp only [List.length_drop, List.length_take]; rfl)) ?_; (with_reducible refine (w7_alive.calls k  true _ A22.out).mono ?_); rintro e w25 ⟨rfl, hb⟩; refine ⟨_, rfl, ?_⟩; have n0_ := Aside0.mk (below_step (by repeat (first | (with_reducible first | exact HB.out | apply below_alloc | apply pw_below_drewN | apply below_drew1) | exact HB.out)) hb); clear HB; have HB := n0_; clear n0_; (try clear hb); (try clear hb2); (try clear hk); (try clear hi)) | (go_at_call 11; (with_reducible refine (pages_Right.calls k _ _ l0 t144 _ ?side1 ?side2 A24.out).mono ?_); (case side1 => repeat (first | exact (Kd.C_below HR0.out HB.out) | (with_reducible refine Kd.C_alloc ?_ _) | (with_reducible refine Kd.C_drewN ?_ _) | (with_reducible refine Kd.C_drew ?_))); (case side2 => exact HC0.out); rintro e w26 ⟨rfl, hb⟩; have n0_ := Aside0.mk (below_step (by repeat (first | (with_reducible first | exact HB.out | apply below_alloc | apply pw_below_drewN | apply below_drew1) | exact HB.out)) hb); clear HB; have HB := n0_; clear n0_; (try clear hb); (try clear hb2); (try clear hk); (try clear hi)))
          go_meet
          case rel => exact ⟨_, ((t144 != t138)), (by first | rfl | (simp; done) | (simp [*]; done)), H', ⟨by first | omega | exact Nat.le_refl _⟩, ⟨by repeat (first | (with_reducible first | exact HB.out | apply below_alloc | apply pw_below_drewN | apply below_drew1) | exact HB.out)⟩⟩
        · replace c23 := Bool.eq_false_iff.mpr c23
          subst c23
          have H1 : (w7_PagesRight.j0 k l0 a1 a2 t138 t139 t140 t141 t142 true) = some r := by rw [if_neg (show ¬ (false = true) by decide)] at H; exact H
          clear H
          have H := H1
          clear H1
          have H' := Aside0.mk H
          clear H
          go_wp2_with (first | ((with_reducible refine gate_callee (f := 10) rfl ?_); refine goesL_ (some 37) rfl rfl Tryd.func10 (by kernel_rfl) rfl #[] rfl (by (try simp only [List.map_toArray, List.map_cons, List.map_nil]); first | done | rfl | (simp only [List.length_drop, List.length_take]; rfl)) ?_; (with_reducible refine (w7_alive.calls k  false _ A22.out).mono ?_); rintro e w27 ⟨rfl, hb⟩; refine ⟨_, rfl, ?_⟩; have n0_ := Aside0.mk (below_step (by repeat (first | (with_reducible first | exact HB.out | apply below_alloc | apply pw_below_drewN | apply below_drew1) | exact HB.out)) hb); clear HB; have HB := n0_; clear n0_; (try clear hb); (try clear hb2); (try clear hk); (try clear hi)))
          go_meet
          case rel => exact ⟨_, (true), (by first | rfl | (simp; done) | (simp [*]; done)), H', ⟨by first | omega | exact Nat.le_refl _⟩, ⟨by repeat (first | (with_reducible first | exact HB.out | apply below_alloc | apply pw_below_drewN | apply below_drew1) | exact HB.out)⟩⟩
      case rest =>
        clear HC18
        try clear c1
        try clear c2
        try clear p2
        try clear c3
        try clear c5
        try clear c6
        try clear c6b0
        try clear c6b1
        try clear c8
        try clear c10
        try clear c12
        try clear c13
        try clear c14
        try clear c23
        obtain ⟨kq, x44_17, rfl, HA, HJ17, HB⟩ := hcut
        cases kq with
        | zero => exact absurd HA.out (by simp [w7_PagesRight.j0])
        | succ kj17 =>
          have H := HA.out
          clear HA
          simp only [w7_PagesRight.j0] at H
          by_cases c28 : x44_17 = true
          · subst c28
            have H1 : (some false) = some r := by rw [if_pos rfl] at H; exact H
            clear H
            have H := H1
            clear H1
            obtain rfl := Option.some.inj H
            go_wp2
            go_ret
            exact ⟨by first | rfl | (simp [errW_none, errW_some] <;> rfl) | (simp [*, errW_none, errW_some] <;> rfl), by repeat (first | (with_reducible first | exact HB.out | apply below_alloc | apply pw_below_drewN | apply below_drew1) | exact HB.out)⟩
          · replace c28 := Bool.eq_false_iff.mpr c28
            subst c28
            have H1 : (if t138 = true then ((r7_Length.f kj17 l0).bind fun t145 => (if t139 = t145 then (w7_PagesRight.j1 kj17 l0 a1 a2 t141 t142 (t140 != 0)) else (w7_PagesRight.j1 kj17 l0 a1 a2 t141 t142 true))) else (if t139 = 0 then (if t140 = 1 then (if t141.toList = ([] : List UInt8) then (some (t142 == 1)) else (some false)) else (some false)) else (some false))) = some r := by rw [if_neg (show ¬ (false = true) by decide)] at H; exact H
            clear H
            have H := H1
            clear H1
            by_cases c29 : t138 = true
            · subst c29
              have H1 : ((r7_Length.f kj17 l0).bind fun t145 => (if t139 = t145 then (w7_PagesRight.j1 kj17 l0 a1 a2 t141 t142 (t140 != 0)) else (w7_PagesRight.j1 kj17 l0 a1 a2 t141 t142 true))) = some r := by rw [if_pos rfl] at H; exact H
              clear H
              have H := H1
              clear H1
              have HC30 := Aside0.mk H
              clear H
              go_upto_region 12 with (fail)
              go_cut [68] (fun v68 wc => ∃ (kq : Nat) (x68_29 : Bool), v68 = .bool x68_29 ∧ Aside0 (w7_PagesRight.j1 kq l0 a1 a2 t141 t142 x68_29 = some r) ∧ Aside0 (kq ≤ kj17) ∧ Aside0 (Below w.heap.size w wc))
              case first =>
                have H := HC30.out
                clear HC30
                replace H := Option.bind_eq_some_iff.mp H
                obtain ⟨t145, A310, H⟩ := H
                replace H : (if t139 = t145 then (w7_PagesRight.j1 kj17 l0 a1 a2 t141 t142 (t140 != 0)) else (w7_PagesRight.j1 kj17 l0 a1 a2 t141 t142 true)) = some r := H
                have A31 := Aside0.mk A310
                clear A310
                by_cases c32 : t139 = t145
                · rw [if_pos c32] at H
                  have c32b0 : (t139 == t145) = true := beq_iff_eq.mpr c32
                  have c32b1 : (t139 != t145) = false := bne_eq_false_iff_eq.mpr c32
                  clear c32
                  (first | rw [c32b0] | (simp only [i64_w, i32_w]; rw [c32b0]) | skip)
                  have H' := Aside0.mk H
                  clear H
                  go_wp2_with (first | ((with_reducible refine gate_callee (f := 15) rfl ?_); refine goesL_ (some 63) rfl rfl Tryd.func15 (by kernel_rfl) rfl #[.slice A0 l0.length c0] rfl (by (try simp only [List.map_toArray, List.map_cons, List.map_nil]); first | done | rfl | (simp only [List.length_drop, List.length_take]; rfl)) ?_; (with_reducible refine (r7_Length.calls kj17 _ _ l0 t145 _ ?side1 ?side2 A31.out).mono ?_); (case side1 => repeat (first | exact (Kd.C_below HR0.out HB.out) | (with_reducible refine Kd.C_alloc ?_ _) | (with_reducible refine Kd.C_drewN ?_ _) | (with_reducible refine Kd.C_drew ?_))); (case side2 => exact HC0.out); rintro e w' ⟨rfl, ⟨nd, rfl⟩⟩; refine ⟨_, rfl, ?_⟩))
                  go_meet
                  case rel => exact ⟨_, ((t140 != 0)), (by first | rfl | (simp; done) | (simp [*]; done)), H', ⟨by have := HJ17.out; first | omega | exact Nat.le_refl _⟩, ⟨by repeat (first | (with_reducible first | exact HB.out | apply below_alloc | apply pw_below_drewN | apply below_drew1) | exact HB.out)⟩⟩
                · rw [if_neg c32] at H
                  have c32b0 : (t139 == t145) = false := beq_eq_false_iff_ne.mpr c32
                  have c32b1 : (t139 != t145) = true := bne_iff_ne.mpr c32
                  (first | rw [c32b0] | (simp only [i64_w, i32_w]; rw [c32b0]) | skip)
                  have H' := Aside0.mk H
                  clear H
                  go_wp2_with (first | ((with_reducible refine gate_callee (f := 15) rfl ?_); refine goesL_ (some 63) rfl rfl Tryd.func15 (by kernel_rfl) rfl #[.slice A0 l0.length c0] rfl (by (try simp only [List.map_toArray, List.map_cons, List.map_nil]); first | done | rfl | (simp only [List.length_drop, List.length_take]; rfl)) ?_; (with_reducible refine (r7_Length.calls kj17 _ _ l0 t145 _ ?side1 ?side2 A31.out).mono ?_); (case side1 => repeat (first | exact (Kd.C_below HR0.out HB.out) | (with_reducible refine Kd.C_alloc ?_ _) | (with_reducible refine Kd.C_drewN ?_ _) | (with_reducible refine Kd.C_drew ?_))); (case side2 => exact HC0.out); rintro e w' ⟨rfl, ⟨nd, rfl⟩⟩; refine ⟨_, rfl, ?_⟩))
                  go_meet
                  case rel => exact ⟨_, (true), (by first | rfl | (simp; done) | (simp [*]; done)), H', ⟨by have := HJ17.out; first | omega | exact Nat.le_refl _⟩, ⟨by repeat (first | (with_reducible first | exact HB.out | apply below_alloc | apply pw_below_drewN | apply below_drew1) | exact HB.out)⟩⟩
              case rest =>
                clear HC30
                try clear c1
                try clear c2
                try clear p2
                try clear c3
                try clear c5
                try clear c6
                try clear c6b0
                try clear c6b1
                try clear c8
                try clear c10
                try clear c12
                try clear c13
                try clear c14
                try clear c15
                try clear c23
                try clear c28
                try clear c29
                try clear c32
                try clear c32b0
                try clear c32b1
                try clear p2
                obtain ⟨kq, x68_29, rfl, HA, HJ29, HB⟩ := hcut
                cases kq with
                | zero => exact absurd HA.out (by simp [w7_PagesRight.j1])
                | succ kj29 =>
                  have H := HA.out
                  clear HA
                  simp only [w7_PagesRight.j1] at H
                  by_cases c33 : x68_29 = true
                  · subst c33
                    have H1 : (some false) = some r := by rw [if_pos rfl] at H; exact H
                    clear H
                    have H := H1
                    clear H1
                    obtain rfl := Option.some.inj H
                    go_wp2
                    go_ret
                    exact ⟨by first | rfl | (simp [errW_none, errW_some] <;> rfl) | (simp [*, errW_none, errW_some] <;> rfl), by repeat (first | (with_reducible first | exact HB.out | apply below_alloc | apply pw_below_drewN | apply below_drew1) | exact HB.out)⟩
                  · replace c33 := Bool.eq_false_iff.mpr c33
                    subst c33
                    have H1 : ((r7_In.f a1 a2).bind fun t146 => (if t146 = true then ((r7_Bytes.f kj29 l0 a1 a2).bind fun t147 => (if t141.toList = t147.toList then (some (t142 == 0)) else (some false))) else (if t141.toList = ([] : List UInt8) then (some (t142 == 1)) else (some false)))) = some r := by rw [if_neg (show ¬ (false = true) by decide)] at H; exact H
                    clear H
                    have H := H1
                    clear H1
                    replace H := Option.bind_eq_some_iff.mp H
                    obtain ⟨t146, A340, H⟩ := H
                    replace H : (if t146 = true then ((r7_Bytes.f kj29 l0 a1 a2).bind fun t147 => (if t141.toList = t147.toList then (some (t142 == 0)) else (some false))) else (if t141.toList = ([] : List UInt8) then (some (t142 == 1)) else (some false))) = some r := H
                    have A34 := Aside0.mk A340
                    clear A340
                    by_cases c35 : t146 = true
                    · subst c35
                      have H1 : ((r7_Bytes.f kj29 l0 a1 a2).bind fun t147 => (if t141.toList = t147.toList then (some (t142 == 0)) else (some false))) = some r := by rw [if_pos rfl] at H; exact H
                      clear H
                      have H := H1
                      clear H1
                      replace H := Option.bind_eq_some_iff.mp H
                      obtain ⟨t147, A360, H⟩ := H
                      replace H : (if t141.toList = t147.toList then (some (t142 == 0)) else (some false)) = some r := H
                      have A36 := Aside0.mk A360
                      clear A360
                      by_cases c37 : t141.toList = t147.toList
                      · rw [if_pos c37] at H
                        have c37b0 : (t141.toList == t147.toList) = true := beq_iff_eq.mpr c37
                        have c37b1 : (t141.toList != t147.toList) = false := bne_eq_false_iff_eq.mpr c37
                        clear c37
                        obtain rfl := Option.some.inj H
                        go_wp2_with (first | ((with_reducible refine gate_callee (f := 16) rfl ?_); refine goesL_ (some 71) rfl rfl Tryd.func16 (by kernel_rfl) rfl #[.int .i64 a1, .int .i64 a2] rfl (by (try simp only [List.map_toArray, List.map_cons, List.map_nil]); first | done | rfl | (simp only [List.length_drop, List.length_take]; rfl)) ?_; (with_reducible refine (r7_In.calls a1 a2 true _ A34.out).mono ?_); rintro e w' ⟨rfl, ⟨nd, rfl⟩⟩; refine ⟨_, rfl, ?_⟩) | ((with_reducible refine gate_callee (f := 17) rfl ?_); refine goesL_ (some 83) rfl rfl Tryd.func17 (by kernel_rfl) rfl #[.slice A0 l0.length c0, .int .i64 a1, .int .i64 a2] rfl (by (try simp only [List.map_toArray, List.map_cons, List.map_nil]); first | done | rfl | (simp only [List.length_drop, List.length_take]; rfl)) ?_; (with_reducible refine (r7_Bytes.calls kj29 _ _ l0 a1 a2 t147 _ ?side1 ?side2 A36.out).mono ?_); (case side1 => repeat (first | exact (Kd.C_below HR0.out (by repeat (first | (with_reducible first | exact HB.out | apply below_alloc | apply pw_below_drewN | apply below_drew1) | exact HB.out))) | (with_reducible refine Kd.C_alloc ?_ _) | (with_reducible refine Kd.C_drewN ?_ _) | (with_reducible refine Kd.C_drew ?_))); (case side2 => exact HC0.out); rintro e w38 ⟨rfl, hb⟩; refine ⟨_, rfl, ?_⟩; have n0_ := Aside0.mk (below_step (by repeat (first | (with_reducible first | exact HB.out | apply below_alloc | apply pw_below_drewN | apply below_drew1) | exact HB.out)) hb); clear HB; have HB := n0_; clear n0_; (try clear hb); (try clear hb2); (try clear hk); (try clear hi)))
                        go_ret
                        exact ⟨by first | rfl | (simp [errW_none, errW_some] <;> rfl) | (simp [*, errW_none, errW_some] <;> rfl), by repeat (first | (with_reducible first | exact HB.out | apply below_alloc | apply pw_below_drewN | apply below_drew1) | exact HB.out)⟩
                      · rw [if_neg c37] at H
                        have c37b0 : (t141.toList == t147.toList) = false := beq_eq_false_iff_ne.mpr c37
                        have c37b1 : (t141.toList != t147.toList) = true := bne_iff_ne.mpr c37
                        obtain rfl := Option.some.inj H
                        go_wp2_with (first | ((with_reducible refine gate_callee (f := 16) rfl ?_); refine goesL_ (some 71) rfl rfl Tryd.func16 (by kernel_rfl) rfl #[.int .i64 a1, .int .i64 a2] rfl (by (try simp only [List.map_toArray, List.map_cons, List.map_nil]); first | done | rfl | (simp only [List.length_drop, List.length_take]; rfl)) ?_; (with_reducible refine (r7_In.calls a1 a2 true _ A34.out).mono ?_); rintro e w' ⟨rfl, ⟨nd, rfl⟩⟩; refine ⟨_, rfl, ?_⟩) | ((with_reducible refine gate_callee (f := 17) rfl ?_); refine goesL_ (some 83) rfl rfl Tryd.func17 (by kernel_rfl) rfl #[.slice A0 l0.length c0, .int .i64 a1, .int .i64 a2] rfl (by (try simp only [List.map_toArray, List.map_cons, List.map_nil]); first | done | rfl | (simp only [List.length_drop, List.length_take]; rfl)) ?_; (with_reducible refine (r7_Bytes.calls kj29 _ _ l0 a1 a2 t147 _ ?side1 ?side2 A36.out).mono ?_); (case side1 => repeat (first | exact (Kd.C_below HR0.out (by repeat (first | (with_reducible first | exact HB.out | apply below_alloc | apply pw_below_drewN | apply below_drew1) | exact HB.out))) | (with_reducible refine Kd.C_alloc ?_ _) | (with_reducible refine Kd.C_drewN ?_ _) | (with_reducible refine Kd.C_drew ?_))); (case side2 => exact HC0.out); rintro e w39 ⟨rfl, hb⟩; refine ⟨_, rfl, ?_⟩; have n0_ := Aside0.mk (below_step (by repeat (first | (with_reducible first | exact HB.out | apply below_alloc | apply pw_below_drewN | apply below_drew1) | exact HB.out)) hb); clear HB; have HB := n0_; clear n0_; (try clear hb); (try clear hb2); (try clear hk); (try clear hi)))
                        go_ret
                        exact ⟨by first | rfl | (simp [errW_none, errW_some] <;> rfl) | (simp [*, errW_none, errW_some] <;> rfl), by repeat (first | (with_reducible first | exact HB.out | apply below_alloc | apply pw_below_drewN | apply below_drew1) | exact HB.out)⟩
                    · replace c35 := Bool.eq_false_iff.mpr c35
                      subst c35
                      have H1 : (if t141.toList = ([] : List UInt8) then (some (t142 == 1)) else (some false)) = some r := by rw [if_neg (show ¬ (false = true) by decide)] at H; exact H
                      clear H
                      have H := H1
                      clear H1
                      by_cases c40 : t141.toList = ([] : List UInt8)
                      · rw [if_pos c40] at H
                        have c40b0 : (t141.toList == ([] : List UInt8)) = true := beq_iff_eq.mpr c40
                        have c40b1 : (t141.toList != ([] : List UInt8)) = false := bne_eq_false_iff_eq.mpr c40
                        clear c40
                        obtain rfl := Option.some.inj H
                        go_wp2_with (first | ((with_reducible refine gate_callee (f := 16) rfl ?_); refine goesL_ (some 71) rfl rfl Tryd.func16 (by kernel_rfl) rfl #[.int .i64 a1, .int .i64 a2] rfl (by (try simp only [List.map_toArray, List.map_cons, List.map_nil]); first | done | rfl | (simp only [List.length_drop, List.length_take]; rfl)) ?_; (with_reducible refine (r7_In.calls a1 a2 false _ A34.out).mono ?_); rintro e w' ⟨rfl, ⟨nd, rfl⟩⟩; refine ⟨_, rfl, ?_⟩))
                        go_ret
                        exact ⟨by first | rfl | (simp [errW_none, errW_some] <;> rfl) | (simp [*, errW_none, errW_some] <;> rfl), by repeat (first | (with_reducible first | exact HB.out | apply below_alloc | apply pw_below_drewN | apply below_drew1) | exact HB.out)⟩
                      · rw [if_neg c40] at H
                        have c40b0 : (t141.toList == ([] : List UInt8)) = false := beq_eq_false_iff_ne.mpr c40
                        have c40b1 : (t141.toList != ([] : List UInt8)) = true := bne_iff_ne.mpr c40
                        obtain rfl := Option.some.inj H
                        go_wp2_with (first | ((with_reducible refine gate_callee (f := 16) rfl ?_); refine goesL_ (some 71) rfl rfl Tryd.func16 (by kernel_rfl) rfl #[.int .i64 a1, .int .i64 a2] rfl (by (try simp only [List.map_toArray, List.map_cons, List.map_nil]); first | done | rfl | (simp only [List.length_drop, List.length_take]; rfl)) ?_; (with_reducible refine (r7_In.calls a1 a2 false _ A34.out).mono ?_); rintro e w' ⟨rfl, ⟨nd, rfl⟩⟩; refine ⟨_, rfl, ?_⟩))
                        go_ret
                        exact ⟨by first | rfl | (simp [errW_none, errW_some] <;> rfl) | (simp [*, errW_none, errW_some] <;> rfl), by repeat (first | (with_reducible first | exact HB.out | apply below_alloc | apply pw_below_drewN | apply below_drew1) | exact HB.out)⟩
            · replace c29 := Bool.eq_false_iff.mpr c29
              subst c29
              have H1 : (if t139 = 0 then (if t140 = 1 then (if t141.toList = ([] : List UInt8) then (some (t142 == 1)) else (some false)) else (some false)) else (some false)) = some r := by rw [if_neg (show ¬ (false = true) by decide)] at H; exact H
              clear H
              have H := H1
              clear H1
              by_cases c41 : t139 = 0
              · rw [if_pos c41] at H
                have c41b0 : (t139 == 0) = true := beq_iff_eq.mpr c41
                have c41b1 : (t139 != 0) = false := bne_eq_false_iff_eq.mpr c41
                clear c41
                by_cases c42 : t140 = 1
                · rw [if_pos c42] at H
                  have c42b0 : (t140 == 1) = true := beq_iff_eq.mpr c42
                  have c42b1 : (t140 != 1) = false := bne_eq_false_iff_eq.mpr c42
                  clear c42
                  by_cases c43 : t141.toList = ([] : List UInt8)
                  · rw [if_pos c43] at H
                    have c43b0 : (t141.toList == ([] : List UInt8)) = true := beq_iff_eq.mpr c43
                    have c43b1 : (t141.toList != ([] : List UInt8)) = false := bne_eq_false_iff_eq.mpr c43
                    clear c43
                    obtain rfl := Option.some.inj H
                    go_wp2
                    go_ret
                    exact ⟨by first | rfl | (simp [errW_none, errW_some] <;> rfl) | (simp [*, errW_none, errW_some] <;> rfl), by repeat (first | (with_reducible first | exact HB.out | apply below_alloc | apply pw_below_drewN | apply below_drew1) | exact HB.out)⟩
                  · rw [if_neg c43] at H
                    have c43b0 : (t141.toList == ([] : List UInt8)) = false := beq_eq_false_iff_ne.mpr c43
                    have c43b1 : (t141.toList != ([] : List UInt8)) = true := bne_iff_ne.mpr c43
                    obtain rfl := Option.some.inj H
                    go_wp2
                    go_ret
                    exact ⟨by first | rfl | (simp [errW_none, errW_some] <;> rfl) | (simp [*, errW_none, errW_some] <;> rfl), by repeat (first | (with_reducible first | exact HB.out | apply below_alloc | apply pw_below_drewN | apply below_drew1) | exact HB.out)⟩
                · rw [if_neg c42] at H
                  have c42b0 : (t140 == 1) = false := beq_eq_false_iff_ne.mpr c42
                  have c42b1 : (t140 != 1) = true := bne_iff_ne.mpr c42
                  obtain rfl := Option.some.inj H
                  go_wp2
                  go_ret
                  exact ⟨by first | rfl | (simp [errW_none, errW_some] <;> rfl) | (simp [*, errW_none, errW_some] <;> rfl), by repeat (first | (with_reducible first | exact HB.out | apply below_alloc | apply pw_below_drewN | apply below_drew1) | exact HB.out)⟩
              · rw [if_neg c41] at H
                have c41b0 : (t139 == 0) = false := beq_eq_false_iff_ne.mpr c41
                have c41b1 : (t139 != 0) = true := bne_iff_ne.mpr c41
                obtain rfl := Option.some.inj H
                go_wp2
                go_ret
                exact ⟨by first | rfl | (simp [errW_none, errW_some] <;> rfl) | (simp [*, errW_none, errW_some] <;> rfl), by repeat (first | (with_reducible first | exact HB.out | apply below_alloc | apply pw_below_drewN | apply below_drew1) | exact HB.out)⟩
  · replace c5 := Bool.eq_false_iff.mpr c5
    subst c5
    have H1 : (some false) = some r := by rw [if_neg (show ¬ (false = true) by decide)] at H; exact H
    clear H
    have H := H1
    clear H1
    obtain rfl := Option.some.inj H
    go_enter Tryd.func3, Tryd.ntmps3
    go_wp2_with (first | ((with_reducible refine gate_callee (f := 10) rfl ?_); refine goesL_ (some 12) rfl rfl Tryd.func10 (by kernel_rfl) rfl #[] rfl (by (try simp only [List.map_toArray, List.map_cons, List.map_nil]); first | done | rfl | (simp only [List.length_drop, List.length_take]; rfl)) ?_; (with_reducible refine (w7_alive.calls k  false _ A4.out).mono ?_); rintro e w44 ⟨rfl, hb⟩; refine ⟨_, rfl, ?_⟩; have n0_ := Aside0.mk (below_step (by repeat (first | (with_reducible first | exact HB.out | apply below_alloc | apply pw_below_drewN | apply below_drew1) | exact HB.out)) hb); clear HB; have HB := n0_; clear n0_; (try clear hb); (try clear hb2); (try clear hk); (try clear hi)))
    go_ret
    exact ⟨by first | rfl | (simp [errW_none, errW_some] <;> rfl) | (simp [*, errW_none, errW_some] <;> rfl), by repeat (first | (with_reducible first | exact HB.out | apply below_alloc | apply pw_below_drewN | apply below_drew1) | exact HB.out)⟩

end Go.Proofs.YtojnmgogigamdaaDoor.Q
