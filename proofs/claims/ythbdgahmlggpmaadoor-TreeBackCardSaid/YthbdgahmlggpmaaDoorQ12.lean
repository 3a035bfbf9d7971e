-- Printed by wip/pr.py of this work, over the kit's print, with functions proved by hand in their places.
import Derived.Test.YthbdgahmlggpmaaDoorQ0
import Derived.Test.YthbdgahmlggpmaaDoorQ7
import Derived.Test.YthbdgahmlggpmaaDoorQ8
import Derived.Test.YthbdgahmlggpmaaDoorQ10
import Derived.Test.YthbdgahmlggpmaaDoorQ11
import Derived.Test.YthbdgahmlggpmaaDoorM13
namespace Go.Proofs.YthbdgahmlggpmaaDoor.Q
open Go.RowKit Go.Proofs.YthbdgahmlggpmaaDoorW.PrintWords Go.Proofs.YthbdgahmlggpmaaDoorW.PrintLast Go.Proofs.YthbdgahmlggpmaaDoorW.PrintMore
attribute [local go_sem] max2_int min2_int max_two min_two max_three min_three max_four min_four   -- for this text's walks alone
set_option linter.unusedVariables false
set_option linter.unusedSimpArgs false

theorem fold_ {p : World → Prop} {wc : World} {m : Nat} (h : ∀ (wd : World) (md : Nat), wd = wc.drewN md → p wd) : p (wc.drewN m) := h _ m rfl
theorem R_eq {α : Type} {d : Kd α} {e base : Nat} {w w1 : World} {ok : Nat → Prop} {v : Value} {xs : List α} {m : Nat} (h : w1 = w.drewN m) (hr : Kd.R d e w base ok v xs) : Kd.R d e w1 base ok v xs := by subst h; exact Kd.R_drewN hr m
theorem below_eq {B : Nat} {w0 w w1 : World} {m : Nat} (h : w1 = w.drewN m) (hb : Below B w0 w) : Below B w0 w1 := by subst h; exact pw_below_drewN hb m
/-! ### r10_Rename: function 14 -/
mutual
def r10_Rename.j0 : Nat → List (S34) → List ByteArray → List ByteArray → Bool → Option ((List (S34)) × Int)
  | 0, _, _, _, _ => none
  | k + 1, x0, x8, x10, x39 => if x39 = true then (some (([] : List (S34)), 9)) else ((r10_Walk.f k x0 x8).bind fun bt232 => (if bt232.2 = 0 then (if bt232.1 = 0 then (some (([] : List (S34)), 21)) else ((r10_Above.f k x0 x10).bind fun bt234 => (if bt234.2 = 0 then ((r10_In.f k x0 bt234.1 bt232.1).bind fun t236 => (if t236 = true then (some (([] : List (S34)), 1)) else (if 0 ≤ (wrap64 ((x10.length : Int) - 1)) then (if (wrap64 ((x10.length : Int) - 1)) < (x10.length : Int) then (if 0 ≤ bt234.1 then (if bt234.1 < (x0.length : Int) then ((r10_Kid.f k x0 ((rd_T34 x0 bt234.1).f0) (rdOf ByteArray.empty x10 (wrap64 ((x10.length : Int) - 1)))).bind fun t239 => (if t239 = bt232.1 then ((some (([] : List (S34)) : List (S34))).bind fun y240 => (if y240.length + x0.length < 4398046511104 then (some ((y240 ++ x0), 0)) else (none))) else (if t239 ≥ 0 then (some (([] : List (S34)), 8)) else (if 0 ≤ bt232.1 then (if bt232.1 < (x0.length : Int) then (if ((rd_T34 x0 bt234.1).f0) = ((rd_T34 x0 bt232.1).f1) then (r10_Rename.j1 k x0 bt232.1 bt234.1 (rdOf ByteArray.empty x10 (wrap64 ((x10.length : Int) - 1))) false) else ((r10_Kids.f k x0 ((rd_T34 x0 bt234.1).f0)).bind fun t249 => (r10_Rename.j1 k x0 bt232.1 bt234.1 (rdOf ByteArray.empty x10 (wrap64 ((x10.length : Int) - 1))) (t249 == 12)))) else (none)) else (none))))) else (none)) else (none)) else (none)) else (none)))) else (some (([] : List (S34)), bt234.2))))) else (some (([] : List (S34)), bt232.2))))
def r10_Rename.j1 : Nat → List (S34) → Int → Int → ByteArray → Bool → Option ((List (S34)) × Int)
  | 0, _, _, _, _, _ => none
  | k + 1, x0, x12, x14, x16, x106 => if x106 = true then (some (([] : List (S34)), 16)) else (if 0 ≤ x12 then (if x12 < (x0.length : Int) then (if 0 ≤ x14 then (if x14 < (x0.length : Int) then ((r10_Without.f x0 x12).bind fun t253 => ((r10_With.f k t253 ((rd_T34 x0 x12).f0) ((rd_T34 x0 x14).f0) x16 ((rd_T34 x0 x12).f3) ((rd_T34 x0 x12).f4)).bind fun t256 => (r10_Rename.l0 k t256 0))) else (none)) else (none)) else (none)) else (none))
def r10_Rename.l0 : Nat → List (S34) → Int → Option ((List (S34)) × Int)
  | 0, _, _ => none
  | k + 1, x19, x20 => if x20 < (x19.length : Int) then ((r10_Depth.f k x19 x20).bind fun t259 => (if t259 > 6 then (some (([] : List (S34)), 9)) else (r10_Rename.l0 k x19 (wrap64 (x20 + 1))))) else (some (x19, 0))
end
def r10_Rename.f (k : Nat) (l0 : List (S34)) (a1 : ByteArray) (a2 : ByteArray) : Option ((List (S34)) × Int) := (r10_Right.f l0).bind fun t223 => (if t223 = true then ((r10_Split.f k a1).bind fun bt224 => ((r10_Split.f k a2).bind fun bt228 => (if bt224.2 = true then (r10_Rename.j0 k l0 bt224.1 bt228.1 (!bt228.2)) else (r10_Rename.j0 k l0 bt224.1 bt228.1 true)))) else (some (([] : List (S34)), 1)))
theorem r10_Rename.mono_l : ∀ k, (∀ y0 y1 y2 y3, LeO (r10_Rename.j0 k y0 y1 y2 y3) (r10_Rename.j0 (k + 1) y0 y1 y2 y3)) ∧ (∀ y0 y1 y2 y3 y4, LeO (r10_Rename.j1 k y0 y1 y2 y3 y4) (r10_Rename.j1 (k + 1) y0 y1 y2 y3 y4)) ∧ (∀ y0 y1, LeO (r10_Rename.l0 k y0 y1) (r10_Rename.l0 (k + 1) y0 y1))
  | 0 => ⟨fun _ _ _ _ r h => by simp [r10_Rename.j0] at h, fun _ _ _ _ _ r h => by simp [r10_Rename.j1] at h, fun _ _ r h => by simp [r10_Rename.l0] at h⟩
  | k + 1 => by
    obtain ⟨ih0, ih1, ih2⟩ := r10_Rename.mono_l k
    refine ⟨?_, ?_, ?_⟩
    · intro y0 y1 y2 y3
      unfold r10_Rename.j0
      repeat' first
      | (with_reducible exact ih0 _ _ _ _)
      | (with_reducible exact ih1 _ _ _ _ _)
      | (with_reducible exact ih2 _ _)
      | (with_reducible exact r10_Above.mono _ _ _)
      | (with_reducible exact r10_Depth.mono _ _ _)
      | (with_reducible exact r10_In.mono _ _ _ _)
      | (with_reducible exact r10_Kid.mono _ _ _ _)
      | (with_reducible exact r10_Kids.mono _ _ _)
      | (with_reducible exact r10_Split.mono _ _)
      | (with_reducible exact r10_Walk.mono _ _ _)
      | (with_reducible exact r10_With.mono _ _ _ _ _ _ _)
      | (with_reducible exact LeO.refl _)
      | (with_reducible exact LeO.none _)
      | (with_reducible refine LeO.ite ?_ ?_)
      | (with_reducible refine LeO.bind ?_ (fun _ => ?_))
      | exact ih0 _ _ _ _
      | exact ih1 _ _ _ _ _
      | exact ih2 _ _
      | exact r10_Above.mono _ _ _
      | exact r10_Depth.mono _ _ _
      | exact r10_In.mono _ _ _ _
      | exact r10_Kid.mono _ _ _ _
      | exact r10_Kids.mono _ _ _
      | exact r10_Split.mono _ _
      | exact r10_Walk.mono _ _ _
      | exact r10_With.mono _ _ _ _ _ _ _
      | exact LeO.none _
      | refine LeO.ite ?_ ?_
      | refine LeO.bind ?_ (fun _ => ?_)
    · intro y0 y1 y2 y3 y4
      unfold r10_Rename.j1
      repeat' first
      | (with_reducible exact ih0 _ _ _ _)
      | (with_reducible exact ih1 _ _ _ _ _)
      | (with_reducible exact ih2 _ _)
      | (with_reducible exact r10_Above.mono _ _ _)
      | (with_reducible exact r10_Depth.mono _ _ _)
      | (with_reducible exact r10_In.mono _ _ _ _)
      | (with_reducible exact r10_Kid.mono _ _ _ _)
      | (with_reducible exact r10_Kids.mono _ _ _)
      | (with_reducible exact r10_Split.mono _ _)
      | (with_reducible exact r10_Walk.mono _ _ _)
      | (with_reducible exact r10_With.mono _ _ _ _ _ _ _)
      | (with_reducible exact LeO.refl _)
      | (with_reducible exact LeO.none _)
      | (with_reducible refine LeO.ite ?_ ?_)
      | (with_reducible refine LeO.bind ?_ (fun _ => ?_))
      | exact ih0 _ _ _ _
      | exact ih1 _ _ _ _ _
      | exact ih2 _ _
      | exact r10_Above.mono _ _ _
      | exact r10_Depth.mono _ _ _
      | exact r10_In.mono _ _ _ _
      | exact r10_Kid.mono _ _ _ _
      | exact r10_Kids.mono _ _ _
      | exact r10_Split.mono _ _
      | exact r10_Walk.mono _ _ _
      | exact r10_With.mono _ _ _ _ _ _ _
      | exact LeO.none _
      | refine LeO.ite ?_ ?_
      | refine LeO.bind ?_ (fun _ => ?_)
    · intro y0 y1
      unfold r10_Rename.l0
      repeat' first
      | (with_reducible exact ih0 _ _ _ _)
      | (with_reducible exact ih1 _ _ _ _ _)
      | (with_reducible exact ih2 _ _)
      | (with_reducible exact r10_Above.mono _ _ _)
      | (with_reducible exact r10_Depth.mono _ _ _)
      | (with_reducible exact r10_In.mono _ _ _ _)
      | (with_reducible exact r10_Kid.mono _ _ _ _)
      | (with_reducible exact r10_Kids.mono _ _ _)
      | (with_reducible exact r10_Split.mono _ _)
      | (with_reducible exact r10_Walk.mono _ _ _)
      | (with_reducible exact r10_With.mono _ _ _ _ _ _ _)
      | (with_reducible exact LeO.refl _)
      | (with_reducible exact LeO.none _)
      | (with_reducible refine LeO.ite ?_ ?_)
      | (with_reducible refine LeO.bind ?_ (fun _ => ?_))
      | exact ih0 _ _ _ _
      | exact ih1 _ _ _ _ _
      | exact ih2 _ _
      | exact r10_Above.mono _ _ _
      | exact r10_Depth.mono _ _ _
      | exact r10_In.mono _ _ _ _
      | exact r10_Kid.mono _ _ _ _
      | exact r10_Kids.mono _ _ _
      | exact r10_Split.mono _ _
      | exact r10_Walk.mono _ _ _
      | exact r10_With.mono _ _ _ _ _ _ _
      | exact LeO.none _
      | refine LeO.ite ?_ ?_
      | refine LeO.bind ?_ (fun _ => ?_)
theorem r10_Rename.mono : ∀ a0 a1 a2 k, LeO (r10_Rename.f k a0 a1 a2) (r10_Rename.f (k + 1) a0 a1 a2) := by
  intro a0 a1 a2 k
  obtain ⟨ih0, ih1, ih2⟩ := r10_Rename.mono_l k
  unfold r10_Rename.f
  repeat' first
      | (with_reducible exact ih0 _ _ _ _)
      | (with_reducible exact ih1 _ _ _ _ _)
      | (with_reducible exact ih2 _ _)
      | (with_reducible exact r10_Above.mono _ _ _)
      | (with_reducible exact r10_Depth.mono _ _ _)
      | (with_reducible exact r10_In.mono _ _ _ _)
      | (with_reducible exact r10_Kid.mono _ _ _ _)
      | (with_reducible exact r10_Kids.mono _ _ _)
      | (with_reducible exact r10_Split.mono _ _)
      | (with_reducible exact r10_Walk.mono _ _ _)
      | (with_reducible exact r10_With.mono _ _ _ _ _ _ _)
      | (with_reducible exact LeO.refl _)
      | (with_reducible exact LeO.none _)
      | (with_reducible refine LeO.ite ?_ ?_)
      | (with_reducible refine LeO.bind ?_ (fun _ => ?_))
      | exact ih0 _ _ _ _
      | exact ih1 _ _ _ _ _
      | exact ih2 _ _
      | exact r10_Above.mono _ _ _
      | exact r10_Depth.mono _ _ _
      | exact r10_In.mono _ _ _ _
      | exact r10_Kid.mono _ _ _ _
      | exact r10_Kids.mono _ _ _
      | exact r10_Split.mono _ _
      | exact r10_Walk.mono _ _ _
      | exact r10_With.mono _ _ _ _ _ _ _
      | exact LeO.none _
      | refine LeO.ite ?_ ?_
      | refine LeO.bind ?_ (fun _ => ?_)
def r10_Rename.T23 : Bool × List (List Nat × List Nat) := (true, [([], []), ([], []), ([0, 1], [0, 1]), ([2], [2]), ([3], [3]), ([], []), ([], []), ([5, 6], [5, 6]), ([7], [7]), ([8], [8]), ([4, 9], [4, 9]), ([10], [10]), ([11], [11]), ([11], [11]), ([11], [11]), ([13, 14, 11], [11, 13, 14]), ([15, 11], [11, 15]), ([16, 11], [11, 16]), ([12, 17, 11, 11], [11, 12, 17]), ([18, 11], [11, 18]), ([11, 19], [11, 19])])
def r10_Rename.B23 : List Nat := [0, 0, 3, 7, 15, 0, 0, 96, 224, 480, 1023, 2047, 4095, 4095, 4095, 28671, 61439, 126975, 262143, 524287, 1048575]
theorem r10_Rename.tab23 : rtab .any (opsOf Tryd.f14 23) = r10_Rename.T23 := by kernel_rfl
theorem r10_Rename.bits23 : waitsOk r10_Rename.T23.2 r10_Rename.B23 = true := by kernel_rfl
set_option maxHeartbeats 8000000 in
set_option maxRecDepth 100000 in
theorem r10_Rename.calls (k : Nat) (A0 : Option Addr) (c0 : Nat) (l0 : List (S34)) (a1 : ByteArray) (a2 : ByteArray) (r1 : List (S34)) (r2 : Int) (w : World) (hr0 : Kd.C k34 w A0 l0.length l0) (hc0 : l0.length ≤ c0) (h : r10_Rename.f k l0 a1 a2 = some (r1, r2)) :
    Calls Tryd.prog 14 #[.slice A0 l0.length c0, .string a1, .string a2] w fun e w' => ∃ v0_ : Value, e = .returned (.tuple #[v0_, .int .i64 r2]) ∧ Kd.R k34 34 w' w.heap.size (fun _ => True) v0_ r1 ∧ Below w.heap.size w w' := by
  have hu34 := Tryd.underlying34
  have HR0 := Aside0.mk hr0
  have HC0 := Aside0.mk hc0
  clear hr0 hc0
  have HB := Aside0.mk (Below.refl w.heap.size w)
  have H : ((r10_Right.f l0).bind fun t223 => (if t223 = true then ((r10_Split.f k a1).bind fun bt224 => ((r10_Split.f k a2).bind fun bt228 => (if bt224.2 = true then (r10_Rename.j0 k l0 bt224.1 bt228.1 (!bt228.2)) else (r10_Rename.j0 k l0 bt224.1 bt228.1 true)))) else (some (([] : List (S34)), 1)))) = some (r1, r2) := h
  clear h
  replace H := Option.bind_eq_some_iff.mp H
  obtain ⟨t223, A40, H⟩ := H
  replace H : (if t223 = true then ((r10_Split.f k a1).bind fun bt224 => ((r10_Split.f k a2).bind fun bt228 => (if bt224.2 = true then (r10_Rename.j0 k l0 bt224.1 bt228.1 (!bt228.2)) else (r10_Rename.j0 k l0 bt224.1 bt228.1 true)))) else (some (([] : List (S34)), 1))) = some (r1, r2) := H
  have A4 := Aside0.mk A40
  clear A40
  by_cases c5 : t223 = true
  · subst c5
    have H1 : ((r10_Split.f k a1).bind fun bt224 => ((r10_Split.f k a2).bind fun bt228 => (if bt224.2 = true then (r10_Rename.j0 k l0 bt224.1 bt228.1 (!bt228.2)) else (r10_Rename.j0 k l0 bt224.1 bt228.1 true)))) = some (r1, r2) := by rw [if_pos rfl] at H; exact H
    clear H
    have H := H1
    clear H1
    replace H := Option.bind_eq_some_iff.mp H
    obtain ⟨⟨t224, t225⟩, A60, H⟩ := H
    replace H : ((r10_Split.f k a2).bind fun bt228 => (if t225 = true then (r10_Rename.j0 k l0 t224 bt228.1 (!bt228.2)) else (r10_Rename.j0 k l0 t224 bt228.1 true))) = some (r1, r2) := H
    have A6 := Aside0.mk A60
    clear A60
    replace H := Option.bind_eq_some_iff.mp H
    obtain ⟨⟨t228, t229⟩, A70, H⟩ := H
    replace H : (if t225 = true then (r10_Rename.j0 k l0 t224 t228 (!t229)) else (r10_Rename.j0 k l0 t224 t228 true)) = some (r1, r2) := H
    have A7 := Aside0.mk A70
    clear A70
    have HC8 := Aside0.mk H
    clear H
    go_enter Tryd.func14, Tryd.ntmps14
    go_upto_region 5 with (first | ((with_reducible refine gate_callee (f := 16) rfl ?_); refine goesL_ (some 22) rfl rfl Tryd.func16 (by kernel_rfl) rfl #[.slice A0 l0.length c0] rfl (by (try simp only [List.map_toArray, List.map_cons, List.map_nil]); first | done | rfl | (simp only [List.length_drop, List.length_take]; rfl)) ?_; (with_reducible refine (r10_Right.calls _ _ l0 true _ ?side1 ?side2 A4.out).mono ?_); (case side1 => repeat (first | exact HR0.out | (with_reducible refine Kd.C_alloc ?_ _) | (with_reducible refine Kd.C_drewN ?_ _) | (with_reducible refine Kd.C_drew ?_))); (case side2 => exact HC0.out); rintro e w9 ⟨rfl, hb⟩; refine ⟨_, rfl, ?_⟩; have n0_ := Aside0.mk (below_step (by repeat (first | (with_reducible first | exact HB.out | apply below_alloc | apply pw_below_drewN | apply below_drew1) | exact HB.out)) hb); clear HB; have HB := n0_; clear n0_; (try clear hb); (try clear hb2); (try clear hk); (try clear hi)) | ((with_reducible refine gate_callee (f := 28) rfl ?_); refine goesL_ (some 26) rfl rfl Tryd.func28 (by kernel_rfl) rfl #[.string a1] rfl (by (try simp only [List.map_toArray, List.map_cons, List.map_nil]); first | done | rfl | (simp only [List.length_drop, List.length_take]; rfl)) ?_; (with_reducible refine (r10_Split.calls k a1 t224 t225 _ A6.out).mono ?_); rintro e w10 ⟨v226, rfl, ho0, hb⟩; refine ⟨_, rfl, ?_⟩; have n0_ := Aside0.mk (Kd.R_lower ho0 (below_size (by repeat (first | (with_reducible first | exact HB.out | apply below_alloc | apply pw_below_drewN | apply below_drew1) | exact HB.out)))); have n1_ := Aside0.mk (below_step (by repeat (first | (with_reducible first | exact HB.out | apply below_alloc | apply pw_below_drewN | apply below_drew1) | exact HB.out)) hb); clear HB; have HO227 := n0_; have HB := n1_; clear n0_ n1_; (try clear hb); (try clear hb2); (try clear hk); (try clear hi); (try clear ho0)) | ((with_reducible refine gate_callee (f := 28) rfl ?_); refine goesL_ (some 31) rfl rfl Tryd.func28 (by kernel_rfl) rfl #[.string a2] rfl (by (try simp only [List.map_toArray, List.map_cons, List.map_nil]); first | done | rfl | (simp only [List.length_drop, List.length_take]; rfl)) ?_; (with_reducible refine (r10_Split.calls k a2 t228 t229 _ A7.out).mono ?_); rintro e w11 ⟨v230, rfl, ho0, hb⟩; refine ⟨_, rfl, ?_⟩; have n0_ := Aside0.mk (Kd.R_elder' (by (with_reducible repeat (first | apply Kd.R_alloc | apply Kd.R_drewN | apply Kd.R_drew)); exact HO227.out) (Kd.R_base ho0) hb); have n1_ := Aside0.mk (Kd.R_lower (Kd.R_new' ho0 (Kd.R_lt (by (with_reducible repeat (first | apply Kd.R_alloc | apply Kd.R_drewN | apply Kd.R_drew)); exact HO227.out))) (below_size (by repeat (first | (with_reducible first | exact HB.out | apply below_alloc | apply pw_below_drewN | apply below_drew1) | exact HB.out)))); have n2_ := Aside0.mk (below_step (by repeat (first | (with_reducible first | exact HB.out | apply below_alloc | apply pw_below_drewN | apply below_drew1) | exact HB.out)) hb); clear HO227; clear HB; have HO227 := n0_; have HO231 := n1_; have HB := n2_; clear n0_ n1_ n2_; (try clear hb); (try clear hb2); (try clear hk); (try clear hi); (try clear ho0)))
    (try simp only [Act.put, List.setIfInBounds_toArray, List.set_cons_zero, List.set_cons_succ])
    go_cut [39] (fun v39 wc => ∃ (kq : Nat) (x39_7 : Bool), v39 = .bool x39_7 ∧ Aside0 (r10_Rename.j0 kq l0 t224 t228 x39_7 = some (r1, r2)) ∧ Aside0 (kq ≤ k) ∧ Aside0 (Kd.R Kd.string 9 wc w.heap.size (fun k_ => some k_ ≠ (v230 : Value).ownBlock) v226 t224) ∧ Aside0 (Kd.R Kd.string 9 wc w.heap.size (fun k_ => some k_ ≠ (v226 : Value).ownBlock) v230 t228) ∧ Aside0 (Below w.heap.size w wc))
    case first =>
      have H := HC8.out
      clear HC8
      by_cases c12 : t225 = true
      · subst c12
        have H1 : (r10_Rename.j0 k l0 t224 t228 (!t229)) = some (r1, r2) := by rw [if_pos rfl] at H; exact H
        clear H
        have H := H1
        clear H1
        have H' := Aside0.mk H
        clear H
        go_wp2
        go_meet
        case rel => exact ⟨_, (!t229), (by first | rfl | (simp; done) | (simp [*]; done)), H', ⟨by first | omega | exact Nat.le_refl _⟩, ⟨by (with_reducible repeat (first | apply Kd.R_alloc | apply Kd.R_drewN | apply Kd.R_drew)); exact Kd.R_mono HO227.out (fun _ hk => hk.2)⟩, ⟨by (with_reducible repeat (first | apply Kd.R_alloc | apply Kd.R_drewN | apply Kd.R_drew)); exact Kd.R_mono HO231.out (fun _ hk => hk.2)⟩, ⟨by repeat (first | (with_reducible first | exact HB.out | apply below_alloc | apply pw_below_drewN | apply below_drew1) | exact HB.out)⟩⟩
      · replace c12 := Bool.eq_false_iff.mpr c12
        subst c12
        have H1 : (r10_Rename.j0 k l0 t224 t228 true) = some (r1, r2) := by rw [if_neg (show ¬ (false = true) by decide)] at H; exact H
        clear H
        have H := H1
        clear H1
        have H' := Aside0.mk H
        clear H
        go_wp2
        go_meet
        case rel => exact ⟨_, (true), (by first | rfl | (simp; done) | (simp [*]; done)), H', ⟨by first | omega | exact Nat.le_refl _⟩, ⟨by (with_reducible repeat (first | apply Kd.R_alloc | apply Kd.R_drewN | apply Kd.R_drew)); exact Kd.R_mono HO227.out (fun _ hk => hk.2)⟩, ⟨by (with_reducible repeat (first | apply Kd.R_alloc | apply Kd.R_drewN | apply Kd.R_drew)); exact Kd.R_mono HO231.out (fun _ hk => hk.2)⟩, ⟨by repeat (first | (with_reducible first | exact HB.out | apply below_alloc | apply pw_below_drewN | apply below_drew1) | exact HB.out)⟩⟩
    case rest =>
      clear HC8
      try clear c1
      try clear c2
      try clear p2
      try clear c5
      try clear c12
      obtain ⟨kq, x39_7, rfl, HA, HJ7, HO_8, HO_10, HB⟩ := hcut
      cases kq with
      | zero => exact absurd HA.out (by simp [r10_Rename.j0])
      | succ kj7 =>
        have H := HA.out
        clear HA
        simp only [r10_Rename.j0] at H
        by_cases c13 : x39_7 = true
        · subst c13
          have H1 : (some (([] : List (S34)), 9)) = some (r1, r2) := by rw [if_pos rfl] at H; exact H
          clear H
          have H := H1
          clear H1
          simp only [Option.some.injEq, Prod.mk.injEq] at H
          obtain ⟨rfl, rfl⟩ := H
          go_wp2
          go_ret2
          exact ⟨_, by first | rfl | (simp [errW_none, errW_some] <;> rfl) | (simp [*, errW_none, errW_some] <;> rfl), by first | exact Kd.R_nil _ _ _ _ _ | exact Kd.N_nil _ _ _ _ _ | exact Kd.V_nil _ _ _ _ _ | exact Kd.Q_nil _ _ _ _ _ | exact Kd.S_nil _ _ _ _ _, by repeat (first | (with_reducible first | exact HB.out | apply below_alloc | apply pw_below_drewN | apply below_drew1) | exact HB.out)⟩
        · replace c13 := Bool.eq_false_iff.mpr c13
          subst c13
          have H1 : ((r10_Walk.f kj7 l0 t224).bind fun bt232 => (if bt232.2 = 0 then (if bt232.1 = 0 then (some (([] : List (S34)), 21)) else ((r10_Above.f kj7 l0 t228).bind fun bt234 => (if bt234.2 = 0 then ((r10_In.f kj7 l0 bt234.1 bt232.1).bind fun t236 => (if t236 = true then (some (([] : List (S34)), 1)) else (if 0 ≤ (wrap64 ((t228.length : Int) - 1)) then (if (wrap64 ((t228.length : Int) - 1)) < (t228.length : Int) then (if 0 ≤ bt234.1 then (if bt234.1 < (l0.length : Int) then ((r10_Kid.f kj7 l0 ((rd_T34 l0 bt234.1).f0) (rdOf ByteArray.empty t228 (wrap64 ((t228.length : Int) - 1)))).bind fun t239 => (if t239 = bt232.1 then ((some (([] : List (S34)) : List (S34))).bind fun y240 => (if y240.length + l0.length < 4398046511104 then (some ((y240 ++ l0), 0)) else (none))) else (if t239 ≥ 0 then (some (([] : List (S34)), 8)) else (if 0 ≤ bt232.1 then (if bt232.1 < (l0.length : Int) then (if ((rd_T34 l0 bt234.1).f0) = ((rd_T34 l0 bt232.1).f1) then (r10_Rename.j1 kj7 l0 bt232.1 bt234.1 (rdOf ByteArray.empty t228 (wrap64 ((t228.length : Int) - 1))) false) else ((r10_Kids.f kj7 l0 ((rd_T34 l0 bt234.1).f0)).bind fun t249 => (r10_Rename.j1 kj7 l0 bt232.1 bt234.1 (rdOf ByteArray.empty t228 (wrap64 ((t228.length : Int) - 1))) (t249 == 12)))) else (none)) else (none))))) else (none)) else (none)) else (none)) else (none)))) else (some (([] : List (S34)), bt234.2))))) else (some (([] : List (S34)), bt232.2)))) = some (r1, r2) := by rw [if_neg (show ¬ (false = true) by decide)] at H; exact H
          clear H
          have H := H1
          clear H1
          replace H := Option.bind_eq_some_iff.mp H
          obtain ⟨⟨t232, t233⟩, A140, H⟩ := H
          replace H : (if t233 = 0 then (if t232 = 0 then (some (([] : List (S34)), 21)) else ((r10_Above.f kj7 l0 t228).bind fun bt234 => (if bt234.2 = 0 then ((r10_In.f kj7 l0 bt234.1 t232).bind fun t236 => (if t236 = true then (some (([] : List (S34)), 1)) else (if 0 ≤ (wrap64 ((t228.length : Int) - 1)) then (if (wrap64 ((t228.length : Int) - 1)) < (t228.length : Int) then (if 0 ≤ bt234.1 then (if bt234.1 < (l0.length : Int) then ((r10_Kid.f kj7 l0 ((rd_T34 l0 bt234.1).f0) (rdOf ByteArray.empty t228 (wrap64 ((t228.length : Int) - 1)))).bind fun t239 => (if t239 = t232 then ((some (([] : List (S34)) : List (S34))).bind fun y240 => (if y240.length + l0.length < 4398046511104 then (some ((y240 ++ l0), 0)) else (none))) else (if t239 ≥ 0 then (some (([] : List (S34)), 8)) else (if 0 ≤ t232 then (if t232 < (l0.length : Int) then (if ((rd_T34 l0 bt234.1).f0) = ((rd_T34 l0 t232).f1) then (r10_Rename.j1 kj7 l0 t232 bt234.1 (rdOf ByteArray.empty t228 (wrap64 ((t228.length : Int) - 1))) false) else ((r10_Kids.f kj7 l0 ((rd_T34 l0 bt234.1).f0)).bind fun t249 => (r10_Rename.j1 kj7 l0 t232 bt234.1 (rdOf ByteArray.empty t228 (wrap64 ((t228.length : Int) - 1))) (t249 == 12)))) else (none)) else (none))))) else (none)) else (none)) else (none)) else (none)))) else (some (([] : List (S34)), bt234.2))))) else (some (([] : List (S34)), t233))) = some (r1, r2) := H
          have A14 := Aside0.mk A140
          clear A140
          by_cases c15 : t233 = 0
          · rw [if_pos c15] at H
            have c15b0 : (t233 == 0) = true := beq_iff_eq.mpr c15
            have c15b1 : (t233 != 0) = false := bne_eq_false_iff_eq.mpr c15
            clear c15
            by_cases c16 : t232 = 0
            · rw [if_pos c16] at H
              have c16b0 : (t232 == 0) = true := beq_iff_eq.mpr c16
              have c16b1 : (t232 != 0) = false := bne_eq_false_iff_eq.mpr c16
              clear c16
              simp only [Option.some.injEq, Prod.mk.injEq] at H
              obtain ⟨rfl, rfl⟩ := H
              obtain ⟨Ao17, co17, eo17⟩ := Kd.R_slice HO_8.out
              subst eo17
              go_wp2_with (first | ((with_reducible refine gate_callee (f := 42) rfl ?_); refine goesL_ (some 43) rfl rfl Tryd.func42 (by kernel_rfl) rfl #[.slice A0 l0.length c0, .slice Ao17 t224.length co17] rfl (by (try simp only [List.map_toArray, List.map_cons, List.map_nil]); first | done | rfl | (simp only [List.length_drop, List.length_take]; rfl)) ?_; (with_reducible refine (r10_Walk.calls kj7 _ _ l0 _ _ t224 t232 t233 _ ?side1 ?side2 ?side3 ?side4 A14.out).mono ?_); (case side1 => repeat (first | exact (Kd.C_below HR0.out HB.out) | (with_reducible refine Kd.C_alloc ?_ _) | (with_reducible refine Kd.C_drewN ?_ _) | (with_reducible refine Kd.C_drew ?_))); (case side2 => exact HC0.out); (case side3 => repeat (first | exact (Kd.R_reads' HO_8.out).2.2 | (with_reducible refine Kd.C_alloc ?_ _) | (with_reducible refine Kd.C_drewN ?_ _) | (with_reducible refine Kd.C_drew ?_))); (case side4 => exact (Kd.R_reads' HO_8.out).2.1); rintro e w' ⟨rfl, ⟨nd, rfl⟩⟩; refine ⟨_, rfl, ?_⟩))
              go_ret2
              exact ⟨_, by first | rfl | (simp [errW_none, errW_some] <;> rfl) | (simp [*, errW_none, errW_some] <;> rfl), by first | exact Kd.R_nil _ _ _ _ _ | exact Kd.N_nil _ _ _ _ _ | exact Kd.V_nil _ _ _ _ _ | exact Kd.Q_nil _ _ _ _ _ | exact Kd.S_nil _ _ _ _ _, by repeat (first | (with_reducible first | exact HB.out | apply below_alloc | apply pw_below_drewN | apply below_drew1) | exact HB.out)⟩
            · rw [if_neg c16] at H
              have c16b0 : (t232 == 0) = false := beq_eq_false_iff_ne.mpr c16
              have c16b1 : (t232 != 0) = true := bne_iff_ne.mpr c16
              replace H := Option.bind_eq_some_iff.mp H
              obtain ⟨⟨t234, t235⟩, A180, H⟩ := H
              replace H : (if t235 = 0 then ((r10_In.f kj7 l0 t234 t232).bind fun t236 => (if t236 = true then (some (([] : List (S34)), 1)) else (if 0 ≤ (wrap64 ((t228.length : Int) - 1)) then (if (wrap64 ((t228.length : Int) - 1)) < (t228.length : Int) then (if 0 ≤ t234 then (if t234 < (l0.length : Int) then ((r10_Kid.f kj7 l0 ((rd_T34 l0 t234).f0) (rdOf ByteArray.empty t228 (wrap64 ((t228.length : Int) - 1)))).bind fun t239 => (if t239 = t232 then ((some (([] : List (S34)) : List (S34))).bind fun y240 => (if y240.length + l0.length < 4398046511104 then (some ((y240 ++ l0), 0)) else (none))) else (if t239 ≥ 0 then (some (([] : List (S34)), 8)) else (if 0 ≤ t232 then (if t232 < (l0.length : Int) then (if ((rd_T34 l0 t234).f0) = ((rd_T34 l0 t232).f1) then (r10_Rename.j1 kj7 l0 t232 t234 (rdOf ByteArray.empty t228 (wrap64 ((t228.length : Int) - 1))) false) else ((r10_Kids.f kj7 l0 ((rd_T34 l0 t234).f0)).bind fun t249 => (r10_Rename.j1 kj7 l0 t232 t234 (rdOf ByteArray.empty t228 (wrap64 ((t228.length : Int) - 1))) (t249 == 12)))) else (none)) else (none))))) else (none)) else (none)) else (none)) else (none)))) else (some (([] : List (S34)), t235))) = some (r1, r2) := H
              have A18 := Aside0.mk A180
              clear A180
              by_cases c19 : t235 = 0
              · rw [if_pos c19] at H
                have c19b0 : (t235 == 0) = true := beq_iff_eq.mpr c19
                have c19b1 : (t235 != 0) = false := bne_eq_false_iff_eq.mpr c19
                clear c19
                replace H := Option.bind_eq_some_iff.mp H
                obtain ⟨t236, A200, H⟩ := H
                replace H : (if t236 = true then (some (([] : List (S34)), 1)) else (if 0 ≤ (wrap64 ((t228.length : Int) - 1)) then (if (wrap64 ((t228.length : Int) - 1)) < (t228.length : Int) then (if 0 ≤ t234 then (if t234 < (l0.length : Int) then ((r10_Kid.f kj7 l0 ((rd_T34 l0 t234).f0) (rdOf ByteArray.empty t228 (wrap64 ((t228.length : Int) - 1)))).bind fun t239 => (if t239 = t232 then ((some (([] : List (S34)) : List (S34))).bind fun y240 => (if y240.length + l0.length < 4398046511104 then (some ((y240 ++ l0), 0)) else (none))) else (if t239 ≥ 0 then (some (([] : List (S34)), 8)) else (if 0 ≤ t232 then (if t232 < (l0.length : Int) then (if ((rd_T34 l0 t234).f0) = ((rd_T34 l0 t232).f1) then (r10_Rename.j1 kj7 l0 t232 t234 (rdOf ByteArray.empty t228 (wrap64 ((t228.length : Int) - 1))) false) else ((r10_Kids.f kj7 l0 ((rd_T34 l0 t234).f0)).bind fun t249 => (r10_Rename.j1 kj7 l0 t232 t234 (rdOf ByteArray.empty t228 (wrap64 ((t228.length : Int) - 1))) (t249 == 12)))) else (none)) else (none))))) else (none)) else (none)) else (none)) else (none))) = some (r1, r2) := H
                have A20 := Aside0.mk A200
                clear A200
                by_cases c21 : t236 = true
                · subst c21
                  have H1 : (some (([] : List (S34)), 1)) = some (r1, r2) := by rw [if_pos rfl] at H; exact H
                  clear H
                  have H := H1
                  clear H1
                  simp only [Option.some.injEq, Prod.mk.injEq] at H
                  obtain ⟨rfl, rfl⟩ := H
                  obtain ⟨Ao22, co22, eo22⟩ := Kd.R_slice HO_8.out
                  subst eo22
                  go_wp2_with (first | ((with_reducible refine gate_callee (f := 42) rfl ?_); refine goesL_ (some 43) rfl rfl Tryd.func42 (by kernel_rfl) rfl #[.slice A0 l0.length c0, .slice Ao22 t224.length co22] rfl (by (try simp only [List.map_toArray, List.map_cons, List.map_nil]); first | done | rfl | (simp only [List.length_drop, List.length_take]; rfl)) ?_; (with_reducible refine (r10_Walk.calls kj7 _ _ l0 _ _ t224 t232 t233 _ ?side1 ?side2 ?side3 ?side4 A14.out).mono ?_); (case side1 => repeat (first | exact (Kd.C_below HR0.out HB.out) | (with_reducible refine Kd.C_alloc ?_ _) | (with_reducible refine Kd.C_drewN ?_ _) | (with_reducible refine Kd.C_drew ?_))); (case side2 => exact HC0.out); (case side3 => repeat (first | exact (Kd.R_reads' HO_8.out).2.2 | (with_reducible refine Kd.C_alloc ?_ _) | (with_reducible refine Kd.C_drewN ?_ _) | (with_reducible refine Kd.C_drew ?_))); (case side4 => exact (Kd.R_reads' HO_8.out).2.1); rintro e w' ⟨rfl, ⟨nd, rfl⟩⟩; refine ⟨_, rfl, ?_⟩; obtain ⟨Ao23, co23, eo23⟩ := Kd.R_slice HO_10.out; subst eo23) | ((with_reducible refine gate_callee (f := 43) rfl ?_); refine goesL_ (some 54) rfl rfl Tryd.func43 (by kernel_rfl) rfl #[.slice A0 l0.length c0, .slice Ao23 t228.length co23] rfl (by (try simp only [List.map_toArray, List.map_cons, List.map_nil]); first | done | rfl | (simp only [List.length_drop, List.length_take]; rfl)) ?_; (with_reducible refine (r10_Above.calls kj7 _ _ l0 _ _ t228 t234 t235 _ ?side1 ?side2 ?side3 ?side4 A18.out).mono ?_); (case side1 => repeat (first | exact (Kd.C_below HR0.out (by repeat (first | (with_reducible first | exact HB.out | apply below_alloc | apply pw_below_drewN | apply below_drew1) | exact HB.out))) | (with_reducible refine Kd.C_alloc ?_ _) | (with_reducible refine Kd.C_drewN ?_ _) | (with_reducible refine Kd.C_drew ?_))); (case side2 => exact HC0.out); (case side3 => repeat (first | exact (Kd.R_reads' HO_10.out).2.2 | (with_reducible refine Kd.C_alloc ?_ _) | (with_reducible refine Kd.C_drewN ?_ _) | (with_reducible refine Kd.C_drew ?_))); (case side4 => exact (Kd.R_reads' HO_10.out).2.1); rintro e w' ⟨rfl, ⟨nd, rfl⟩⟩; refine ⟨_, rfl, ?_⟩) | ((with_reducible refine gate_callee (f := 44) rfl ?_); refine goesL_ (some 63) rfl rfl Tryd.func44 (by kernel_rfl) rfl #[.slice A0 l0.length c0, .int .i64 t234, .int .i64 t232] rfl (by (try simp only [List.map_toArray, List.map_cons, List.map_nil]); first | done | rfl | (simp only [List.length_drop, List.length_take]; rfl)) ?_; (with_reducible refine (r10_In.calls kj7 _ _ l0 t234 t232 true _ ?side1 ?side2 A20.out).mono ?_); (case side1 => repeat (first | exact (Kd.C_below HR0.out (by repeat (first | (with_reducible first | exact HB.out | apply below_alloc | apply pw_below_drewN | apply below_drew1) | exact HB.out))) | (with_reducible refine Kd.C_alloc ?_ _) | (with_reducible refine Kd.C_drewN ?_ _) | (with_reducible refine Kd.C_drew ?_))); (case side2 => exact HC0.out); rintro e w' ⟨rfl, ⟨nd, rfl⟩⟩; refine ⟨_, rfl, ?_⟩))
                  go_ret2
                  exact ⟨_, by first | rfl | (simp [errW_none, errW_some] <;> rfl) | (simp [*, errW_none, errW_some] <;> rfl), by first | exact Kd.R_nil _ _ _ _ _ | exact Kd.N_nil _ _ _ _ _ | exact Kd.V_nil _ _ _ _ _ | exact Kd.Q_nil _ _ _ _ _ | exact Kd.S_nil _ _ _ _ _, by repeat (first | (with_reducible first | exact HB.out | apply below_alloc | apply pw_below_drewN | apply below_drew1) | exact HB.out)⟩
                · replace c21 := Bool.eq_false_iff.mpr c21
                  subst c21
                  have H1 : (if 0 ≤ (wrap64 ((t228.length : Int) - 1)) then (if (wrap64 ((t228.length : Int) - 1)) < (t228.length : Int) then (if 0 ≤ t234 then (if t234 < (l0.length : Int) then ((r10_Kid.f kj7 l0 ((rd_T34 l0 t234).f0) (rdOf ByteArray.empty t228 (wrap64 ((t228.length : Int) - 1)))).bind fun t239 => (if t239 = t232 then ((some (([] : List (S34)) : List (S34))).bind fun y240 => (if y240.length + l0.length < 4398046511104 then (some ((y240 ++ l0), 0)) else (none))) else (if t239 ≥ 0 then (some (([] : List (S34)), 8)) else (if 0 ≤ t232 then (if t232 < (l0.length : Int) then (if ((rd_T34 l0 t234).f0) = ((rd_T34 l0 t232).f1) then (r10_Rename.j1 kj7 l0 t232 t234 (rdOf ByteArray.empty t228 (wrap64 ((t228.length : Int) - 1))) false) else ((r10_Kids.f kj7 l0 ((rd_T34 l0 t234).f0)).bind fun t249 => (r10_Rename.j1 kj7 l0 t232 t234 (rdOf ByteArray.empty t228 (wrap64 ((t228.length : Int) - 1))) (t249 == 12)))) else (none)) else (none))))) else (none)) else (none)) else (none)) else (none)) = some (r1, r2) := by rw [if_neg (show ¬ (false = true) by decide)] at H; exact H
                  clear H
                  have H := H1
                  clear H1
                  obtain ⟨ji24, hji24⟩ : ∃ j_ : Int, (wrap64 ((t228.length : Int) - 1)) = j_ := ⟨_, rfl⟩
                  replace H : (if 0 ≤ (ji24) then (if (ji24) < (t228.length : Int) then (if 0 ≤ t234 then (if t234 < (l0.length : Int) then ((r10_Kid.f kj7 l0 ((rd_T34 l0 t234).f0) (rdOf ByteArray.empty t228 (ji24))).bind fun t239 => (if t239 = t232 then ((some (([] : List (S34)) : List (S34))).bind fun y240 => (if y240.length + l0.length < 4398046511104 then (some ((y240 ++ l0), 0)) else (none))) else (if t239 ≥ 0 then (some (([] : List (S34)), 8)) else (if 0 ≤ t232 then (if t232 < (l0.length : Int) then (if ((rd_T34 l0 t234).f0) = ((rd_T34 l0 t232).f1) then (r10_Rename.j1 kj7 l0 t232 t234 (rdOf ByteArray.empty t228 (ji24)) false) else ((r10_Kids.f kj7 l0 ((rd_T34 l0 t234).f0)).bind fun t249 => (r10_Rename.j1 kj7 l0 t232 t234 (rdOf ByteArray.empty t228 (ji24)) (t249 == 12)))) else (none)) else (none))))) else (none)) else (none)) else (none)) else (none)) = some (r1, r2) := by first | (rw [hji24] at H; exact H) | (simp only [hji24] at H ⊢; exact H)
                  (try rw [hji24] at A14)
                  (try rw [hji24] at A18)
                  (try rw [hji24] at A20)
                  have hji24w : (IntKind.i64.wrap ((t228.length : Int) - 1)) = ji24 := (i64_w _).trans hji24
                  by_cases c25 : 0 ≤ (ji24)
                  · rw [if_pos c25] at H
                    have c25b0 : decide (0 ≤ (ji24)) = true := decide_eq_true c25
                    clear c25
                    by_cases c26 : (ji24) < (t228.length : Int)
                    · rw [if_pos c26] at H
                      have c26b0 : decide ((ji24) < (t228.length : Int)) = true := decide_eq_true c26
                      clear c26
                      by_cases c27 : 0 ≤ t234
                      · rw [if_pos c27] at H
                        have c27b0 : decide (0 ≤ t234) = true := decide_eq_true c27
                        clear c27
                        by_cases c28 : t234 < (l0.length : Int)
                        · rw [if_pos c28] at H
                          have c28b0 : decide (t234 < (l0.length : Int)) = true := decide_eq_true c28
                          clear c28
                          replace H := Option.bind_eq_some_iff.mp H
                          obtain ⟨t239, A290, H⟩ := H
                          replace H : (if t239 = t232 then ((some (([] : List (S34)) : List (S34))).bind fun y240 => (if y240.length + l0.length < 4398046511104 then (some ((y240 ++ l0), 0)) else (none))) else (if t239 ≥ 0 then (some (([] : List (S34)), 8)) else (if 0 ≤ t232 then (if t232 < (l0.length : Int) then (if ((rd_T34 l0 t234).f0) = ((rd_T34 l0 t232).f1) then (r10_Rename.j1 kj7 l0 t232 t234 (rdOf ByteArray.empty t228 (ji24)) false) else ((r10_Kids.f kj7 l0 ((rd_T34 l0 t234).f0)).bind fun t249 => (r10_Rename.j1 kj7 l0 t232 t234 (rdOf ByteArray.empty t228 (ji24)) (t249 == 12)))) else (none)) else (none)))) = some (r1, r2) := H
                          have A29 := Aside0.mk A290
                          clear A290
                          by_cases c30 : t239 = t232
                          · rw [if_pos c30] at H
                            have c30b0 : (t239 == t232) = true := beq_iff_eq.mpr c30
                            have c30b1 : (t239 != t232) = false := bne_eq_false_iff_eq.mpr c30
                            clear c30
                            obtain ⟨y240, hy240⟩ : ∃ y_ : List (S34), y_ = (([] : List (S34))) := ⟨_, rfl⟩
                            replace H : (if y240.length + l0.length < 4398046511104 then (some ((y240 ++ l0), 0)) else (none)) = some (r1, r2) := by first | (rw [hy240]; with_reducible exact H) | (have H2_ := (Option.bind_some _ _).symm.trans H; rw [hy240]; with_reducible exact H2_) | (have H2_ := (Option.bind_some _ _).symm.trans H; with_reducible exact H2_) | with_reducible exact H | (rw [hy240]; exact H) | exact H
                            have Ny240 := Aside0.mk hy240
                            clear hy240
                            by_cases c31 : y240.length + l0.length < 4398046511104
                            · rw [if_pos c31] at H
                              have LMc31 := Aside0.mk c31
                              clear c31
                              obtain ⟨y243, hy243⟩ : ∃ y_ : List (S34), y_ = (y240 ++ l0) := ⟨_, rfl⟩
                              replace H : (some (y243, 0)) = some (r1, r2) := by first | (rw [hy243]; with_reducible exact H) | (have H2_ := (Option.bind_some _ _).symm.trans H; rw [hy243]; with_reducible exact H2_) | (have H2_ := (Option.bind_some _ _).symm.trans H; with_reducible exact H2_) | with_reducible exact H | (rw [hy243]; exact H) | exact H
                              have Ny243 := Aside0.mk hy243
                              clear hy243
                              simp only [Option.some.injEq, Prod.mk.injEq] at H
                              obtain ⟨rfl, rfl⟩ := H
                              obtain ⟨Ao32, co32, eo32⟩ := Kd.R_slice HO_8.out
                              subst eo32
                              go_wp2_with (first | ((with_reducible refine gate_callee (f := 42) rfl ?_); refine goesL_ (some 43) rfl rfl Tryd.func42 (by kernel_rfl) rfl #[.slice A0 l0.length c0, .slice Ao32 t224.length co32] rfl (by (try simp only [List.map_toArray, List.map_cons, List.map_nil]); first | done | rfl | (simp only [List.length_drop, List.length_take]; rfl)) ?_; (with_reducible refine (r10_Walk.calls kj7 _ _ l0 _ _ t224 t232 t233 _ ?side1 ?side2 ?side3 ?side4 A14.out).mono ?_); (case side1 => repeat (first | exact (Kd.C_below HR0.out HB.out) | (with_reducible refine Kd.C_alloc ?_ _) | (with_reducible refine Kd.C_drewN ?_ _) | (with_reducible refine Kd.C_drew ?_))); (case side2 => exact HC0.out); (case side3 => repeat (first | exact (Kd.R_reads' HO_8.out).2.2 | (with_reducible refine Kd.C_alloc ?_ _) | (with_reducible refine Kd.C_drewN ?_ _) | (with_reducible refine Kd.C_drew ?_))); (case side4 => exact (Kd.R_reads' HO_8.out).2.1); rintro e w' ⟨rfl, ⟨nd, rfl⟩⟩; refine ⟨_, rfl, ?_⟩; obtain ⟨Ao33, co33, eo33⟩ := Kd.R_slice HO_10.out; subst eo33) | ((with_reducible refine gate_callee (f := 43) rfl ?_); refine goesL_ (some 54) rfl rfl Tryd.func43 (by kernel_rfl) rfl #[.slice A0 l0.length c0, .slice Ao33 t228.length co33] rfl (by (try simp only [List.map_toArray, List.map_cons, List.map_nil]); first | done | rfl | (simp only [List.length_drop, List.length_take]; rfl)) ?_; (with_reducible refine (r10_Above.calls kj7 _ _ l0 _ _ t228 t234 t235 _ ?side1 ?side2 ?side3 ?side4 A18.out).mono ?_); (case side1 => repeat (first | exact (Kd.C_below HR0.out (by repeat (first | (with_reducible first | exact HB.out | apply below_alloc | apply pw_below_drewN | apply below_drew1) | exact HB.out))) | (with_reducible refine Kd.C_alloc ?_ _) | (with_reducible refine Kd.C_drewN ?_ _) | (with_reducible refine Kd.C_drew ?_))); (case side2 => exact HC0.out); (case side3 => repeat (first | exact (Kd.R_reads' HO_10.out).2.2 | (with_reducible refine Kd.C_alloc ?_ _) | (with_reducible refine Kd.C_drewN ?_ _) | (with_reducible refine Kd.C_drew ?_))); (case side4 => exact (Kd.R_reads' HO_10.out).2.1); rintro e w' ⟨rfl, ⟨nd, rfl⟩⟩; refine ⟨_, rfl, ?_⟩) | ((with_reducible refine gate_callee (f := 44) rfl ?_); refine goesL_ (some 63) rfl rfl Tryd.func44 (by kernel_rfl) rfl #[.slice A0 l0.length c0, .int .i64 t234, .int .i64 t232] rfl (by (try simp only [List.map_toArray, List.map_cons, List.map_nil]); first | done | rfl | (simp only [List.length_drop, List.length_take]; rfl)) ?_; (with_reducible refine (r10_In.calls kj7 _ _ l0 t234 t232 false _ ?side1 ?side2 A20.out).mono ?_); (case side1 => repeat (first | exact (Kd.C_below HR0.out (by repeat (first | (with_reducible first | exact HB.out | apply below_alloc | apply pw_below_drewN | apply below_drew1) | exact HB.out))) | (with_reducible refine Kd.C_alloc ?_ _) | (with_reducible refine Kd.C_drewN ?_ _) | (with_reducible refine Kd.C_drew ?_))); (case side2 => exact HC0.out); rintro e w' ⟨rfl, ⟨nd, rfl⟩⟩; refine ⟨_, rfl, ?_⟩; have p237 : 0 ≤ ((ji24) : Int) := of_decide_eq_true (by first | (with_reducible assumption) | assumption); have q237 : (ji24) < (t228.length : Int) := of_decide_eq_true (by first | (with_reducible assumption) | assumption); obtain ⟨ad237, e237, hx237_0⟩ := Kd.at_string (Kd.R_reads' HO_10.out).2.2 (ji24) p237 q237; cases e237; replace p237 := eq_true p237; replace q237 := eq_true q237; have p238 : 0 ≤ (t234 : Int) := of_decide_eq_true (by first | (with_reducible assumption) | assumption); have q238 : t234 < (l0.length : Int) := of_decide_eq_true (by first | (with_reducible assumption) | assumption); obtain ⟨ad238, e238, hx238_0, hx238_1, hx238_2, hx238_3, hx238_4⟩ := at_T34 HR0.out t234 p238 q238; cases e238; replace hx238_0 := (HB.out.cell (World.block_lt_of_cell? w _ hx238_0)).trans hx238_0; replace hx238_1 := (HB.out.cell (World.block_lt_of_cell? w _ hx238_1)).trans hx238_1; replace hx238_2 := (HB.out.cell (World.block_lt_of_cell? w _ hx238_2)).trans hx238_2; replace hx238_3 := (HB.out.cell (World.block_lt_of_cell? w _ hx238_3)).trans hx238_3; replace hx238_4 := (HB.out.cell (World.block_lt_of_cell? w _ hx238_4)).trans hx238_4; replace p238 := eq_true p238; replace q238 := eq_true q238) | ((with_reducible refine gate_callee (f := 45) rfl ?_); refine goesL_ (some 77) rfl rfl Tryd.func45 (by kernel_rfl) rfl #[.slice (some ad238) l0.length c0, .int .u32 ((rd_T34 l0 t234).f0), .string (rdOf ByteArray.empty t228 (ji24))] rfl (by (try simp only [List.map_toArray, List.map_cons, List.map_nil]); first | done | (simp only [hji24]; rfl) | rfl | (simp only [List.length_drop, List.length_take]; rfl)) ?_; (with_reducible refine (r10_Kid.calls kj7 _ _ l0 ((rd_T34 l0 t234).f0) (rdOf ByteArray.empty t228 (ji24)) t239 _ ?side1 ?side2 A29.out).mono ?_); (case side1 => repeat (first | exact (Kd.C_below HR0.out (by repeat (first | (with_reducible first | exact HB.out | apply below_alloc | apply pw_below_drewN | apply below_drew1) | exact HB.out))) | (with_reducible refine Kd.C_alloc ?_ _) | (with_reducible refine Kd.C_drewN ?_ _) | (with_reducible refine Kd.C_drew ?_))); (case side2 => exact HC0.out); rintro e w' ⟨rfl, ⟨nd, rfl⟩⟩; refine ⟨_, rfl, ?_⟩) | ((with_reducible refine gate_dst (N := 81) rfl ?_); refine Kd.R_lit k34 _ 34 ?hg (N := 81) ?hd (xs := ([] : List (S34))) (inner := []) (ok := fun _ => True) (okp := fun _ => True) ?hr ?hp (fun _ hk => hk) trivial (Below.refl _ _) (Nat.le_refl _) (by simp) ?_; (case hd => rfl); (case hg => rfl); (case hr => first | (go_simp; done) | (go_simp; rfl)); (case hp => exact (Reps.none _ _)); intro v241 w34 ho35 hb hg_ hnew_; clear hg_ hnew_; (first | rw [← Ny240.out] at ho35 | (simp only [Int.reduceToNat] at ho35; rw [← Ny240.out] at ho35)); have n0_ := Aside0.mk (Kd.R_below (by (with_reducible repeat (first | apply Kd.R_alloc | apply Kd.R_drewN | apply Kd.R_drew)); exact HO_8.out) hb); have n1_ := Aside0.mk (Kd.R_below (by (with_reducible repeat (first | apply Kd.R_alloc | apply Kd.R_drewN | apply Kd.R_drew)); exact HO_10.out) hb); have n2_ := Aside0.mk (Kd.R_lower ho35 (below_size (by repeat (first | (with_reducible first | exact HB.out | apply below_alloc | apply pw_below_drewN | apply below_drew1) | exact HB.out)))); have n3_ := Aside0.mk (below_step (by repeat (first | (with_reducible first | exact HB.out | apply below_alloc | apply pw_below_drewN | apply below_drew1) | exact HB.out)) hb); clear HO_8; clear HO_10; clear HB; have HO_8 := n0_; have HO_10 := n1_; have HO242 := n2_; have HB := n3_; clear n0_ n1_ n2_ n3_; clear hb ho35) | ((with_reducible refine gate_builtin (b := .append) (xs := #[.tmp 81, .tmp 82]) rfl ?_); at_builtin; refine Kd.R_append_rows k34 (w0 := w) w.heap.size rfl (.tmp 81) (.tmp 82) 22 34 (.agg #[(.int .u32 0), (.int .u32 0), (.string ⟨#[]⟩), (.bool false), (.int .u32 0)]) 32 rfl Tryd.underlying22 info34 rfl (by decide) (by omega) v241 y240 l0 _ _ _ (fun _ => True) (fun _ => False) rfl rfl ?aO ?aR (fun _ _ h => h) (fun _ h => h.elim) ?aF ?aB ?aS ?aL ?_; (case aR => repeat (first | exact (Kd.C_below HR0.out HB.out) | exact (Kd.C_drewN (Kd.C_below HR0.out HB.out) _) | (with_reducible refine Kd.C_alloc ?_ _) | (with_reducible refine Kd.C_drewN ?_ _) | (with_reducible refine Kd.C_drew ?_))); (case aB => exact (by repeat (first | (with_reducible first | exact HB.out | apply below_alloc | apply pw_below_drewN | apply below_drew1) | exact HB.out))); (case aF => exact (fun _ _ => trivial)); (case aO => exact (by (with_reducible repeat (first | apply Kd.R_alloc | apply Kd.R_drewN | apply Kd.R_drew)); exact HO242.out)); (case aS => exact (below_size (by repeat (first | (with_reducible first | exact HB.out | apply below_alloc | apply pw_below_drewN | apply below_drew1) | exact HB.out)))); (case aL => have := LMc31.out; omega); intro v244 w36 ho hb hg hat; rw [← Ny243.out] at ho; have n0_ := Aside0.mk (Kd.R_over' (by (with_reducible repeat (first | apply Kd.R_alloc | apply Kd.R_drewN | apply Kd.R_drew)); exact HO_8.out) (Kd.R_typed (by (with_reducible repeat (first | apply Kd.R_alloc | apply Kd.R_drewN | apply Kd.R_drew)); exact HO242.out)) (by decide) hg); have n1_ := Aside0.mk (Kd.R_over' (by (with_reducible repeat (first | apply Kd.R_alloc | apply Kd.R_drewN | apply Kd.R_drew)); exact HO_10.out) (Kd.R_typed (by (with_reducible repeat (first | apply Kd.R_alloc | apply Kd.R_drewN | apply Kd.R_drew)); exact HO242.out)) (by decide) hg); have n2_ := Aside0.mk (hb); have n3_ := Aside0.mk (ho); clear HO_8; clear HO_10; clear HB; clear HO242; have HO_8 := n0_; have HO_10 := n1_; have HB := n2_; have HO245 := n3_; clear n0_ n1_ n2_ n3_; clear ho hb hg hat))
                              go_ret2
                              exact ⟨_, by first | rfl | (simp [errW_none, errW_some] <;> rfl) | (simp only [← hji24]; first | rfl | (simp [errW_none, errW_some] <;> rfl)) | (simp [*, errW_none, errW_some] <;> rfl), by (with_reducible repeat (first | apply Kd.R_alloc | apply Kd.R_drewN | apply Kd.R_drew)); exact HO245.out, by repeat (first | (with_reducible first | exact HB.out | apply below_alloc | apply pw_below_drewN | apply below_drew1) | exact HB.out)⟩
                            · rw [if_neg c31] at H
                              exact absurd H (by simp)
                          · rw [if_neg c30] at H
                            have c30b0 : (t239 == t232) = false := beq_eq_false_iff_ne.mpr c30
                            have c30b1 : (t239 != t232) = true := bne_iff_ne.mpr c30
                            by_cases c37 : t239 ≥ 0
                            · rw [if_pos c37] at H
                              have c37b0 : decide (0 ≤ t239) = true := decide_eq_true c37
                              clear c37
                              simp only [Option.some.injEq, Prod.mk.injEq] at H
                              obtain ⟨rfl, rfl⟩ := H
                              obtain ⟨Ao38, co38, eo38⟩ := Kd.R_slice HO_8.out
                              subst eo38
                              go_wp2_with (first | ((with_reducible refine gate_callee (f := 42) rfl ?_); refine goesL_ (some 43) rfl rfl Tryd.func42 (by kernel_rfl) rfl #[.slice A0 l0.length c0, .slice Ao38 t224.length co38] rfl (by (try simp only [List.map_toArray, List.map_cons, List.map_nil]); first | done | rfl | (simp only [List.length_drop, List.length_take]; rfl)) ?_; (with_reducible refine (r10_Walk.calls kj7 _ _ l0 _ _ t224 t232 t233 _ ?side1 ?side2 ?side3 ?side4 A14.out).mono ?_); (case side1 => repeat (first | exact (Kd.C_below HR0.out HB.out) | (with_reducible refine Kd.C_alloc ?_ _) | (with_reducible refine Kd.C_drewN ?_ _) | (with_reducible refine Kd.C_drew ?_))); (case side2 => exact HC0.out); (case side3 => repeat (first | exact (Kd.R_reads' HO_8.out).2.2 | (with_reducible refine Kd.C_alloc ?_ _) | (with_reducible refine Kd.C_drewN ?_ _) | (with_reducible refine Kd.C_drew ?_))); (case side4 => exact (Kd.R_reads' HO_8.out).2.1); rintro e w' ⟨rfl, ⟨nd, rfl⟩⟩; refine ⟨_, rfl, ?_⟩; obtain ⟨Ao39, co39, eo39⟩ := Kd.R_slice HO_10.out; subst eo39) | ((with_reducible refine gate_callee (f := 43) rfl ?_); refine goesL_ (some 54) rfl rfl Tryd.func43 (by kernel_rfl) rfl #[.slice A0 l0.length c0, .slice Ao39 t228.length co39] rfl (by (try simp only [List.map_toArray, List.map_cons, List.map_nil]); first | done | rfl | (simp only [List.length_drop, List.length_take]; rfl)) ?_; (with_reducible refine (r10_Above.calls kj7 _ _ l0 _ _ t228 t234 t235 _ ?side1 ?side2 ?side3 ?side4 A18.out).mono ?_); (case side1 => repeat (first | exact (Kd.C_below HR0.out (by repeat (first | (with_reducible first | exact HB.out | apply below_alloc | apply pw_below_drewN | apply below_drew1) | exact HB.out))) | (with_reducible refine Kd.C_alloc ?_ _) | (with_reducible refine Kd.C_drewN ?_ _) | (with_reducible refine Kd.C_drew ?_))); (case side2 => exact HC0.out); (case side3 => repeat (first | exact (Kd.R_reads' HO_10.out).2.2 | (with_reducible refine Kd.C_alloc ?_ _) | (with_reducible refine Kd.C_drewN ?_ _) | (with_reducible refine Kd.C_drew ?_))); (case side4 => exact (Kd.R_reads' HO_10.out).2.1); rintro e w' ⟨rfl, ⟨nd, rfl⟩⟩; refine ⟨_, rfl, ?_⟩) | ((with_reducible refine gate_callee (f := 44) rfl ?_); refine goesL_ (some 63) rfl rfl Tryd.func44 (by kernel_rfl) rfl #[.slice A0 l0.length c0, .int .i64 t234, .int .i64 t232] rfl (by (try simp only [List.map_toArray, List.map_cons, List.map_nil]); first | done | rfl | (simp only [List.length_drop, List.length_take]; rfl)) ?_; (with_reducible refine (r10_In.calls kj7 _ _ l0 t234 t232 false _ ?side1 ?side2 A20.out).mono ?_); (case side1 => repeat (first | exact (Kd.C_below HR0.out (by repeat (first | (with_reducible first | exact HB.out | apply below_alloc | apply pw_below_drewN | apply below_drew1) | exact HB.out))) | (with_reducible refine Kd.C_alloc ?_ _) | (with_reducible refine Kd.C_drewN ?_ _) | (with_reducible refine Kd.C_drew ?_))); (case side2 => exact HC0.out); rintro e w' ⟨rfl, ⟨nd, rfl⟩⟩; refine ⟨_, rfl, ?_⟩; have p237 : 0 ≤ ((ji24) : Int) := of_decide_eq_true (by first | (with_reducible assumption) | assumption); have q237 : (ji24) < (t228.length : Int) := of_decide_eq_true (by first | (with_reducible assumption) | assumption); obtain ⟨ad237, e237, hx237_0⟩ := Kd.at_string (Kd.R_reads' HO_10.out).2.2 (ji24) p237 q237; cases e237; replace p237 := eq_true p237; replace q237 := eq_true q237; have p238 : 0 ≤ (t234 : Int) := of_decide_eq_true (by first | (with_reducible assumption) | assumption); have q238 : t234 < (l0.length : Int) := of_decide_eq_true (by first | (with_reducible assumption) | assumption); obtain ⟨ad238, e238, hx238_0, hx238_1, hx238_2, hx238_3, hx238_4⟩ := at_T34 HR0.out t234 p238 q238; cases e238; replace hx238_0 := (HB.out.cell (World.block_lt_of_cell? w _ hx238_0)).trans hx238_0; replace hx238_1 := (HB.out.cell (World.block_lt_of_cell? w _ hx238_1)).trans hx238_1; replace hx238_2 := (HB.out.cell (World.block_lt_of_cell? w _ hx238_2)).trans hx238_2; replace hx238_3 := (HB.out.cell (World.block_lt_of_cell? w _ hx238_3)).trans hx238_3; replace hx238_4 := (HB.out.cell (World.block_lt_of_cell? w _ hx238_4)).trans hx238_4; replace p238 := eq_true p238; replace q238 := eq_true q238) | ((with_reducible refine gate_callee (f := 45) rfl ?_); refine goesL_ (some 77) rfl rfl Tryd.func45 (by kernel_rfl) rfl #[.slice (some ad238) l0.length c0, .int .u32 ((rd_T34 l0 t234).f0), .string (rdOf ByteArray.empty t228 (ji24))] rfl (by (try simp only [List.map_toArray, List.map_cons, List.map_nil]); first | done | (simp only [hji24]; rfl) | rfl | (simp only [List.length_drop, List.length_take]; rfl)) ?_; (with_reducible refine (r10_Kid.calls kj7 _ _ l0 ((rd_T34 l0 t234).f0) (rdOf ByteArray.empty t228 (ji24)) t239 _ ?side1 ?side2 A29.out).mono ?_); (case side1 => repeat (first | exact (Kd.C_below HR0.out (by repeat (first | (with_reducible first | exact HB.out | apply below_alloc | apply pw_below_drewN | apply below_drew1) | exact HB.out))) | (with_reducible refine Kd.C_alloc ?_ _) | (with_reducible refine Kd.C_drewN ?_ _) | (with_reducible refine Kd.C_drew ?_))); (case side2 => exact HC0.out); rintro e w' ⟨rfl, ⟨nd, rfl⟩⟩; refine ⟨_, rfl, ?_⟩))
                              go_ret2
                              exact ⟨_, by first | rfl | (simp [errW_none, errW_some] <;> rfl) | (simp only [← hji24]; first | rfl | (simp [errW_none, errW_some] <;> rfl)) | (simp [*, errW_none, errW_some] <;> rfl), by first | exact Kd.R_nil _ _ _ _ _ | exact Kd.N_nil _ _ _ _ _ | exact Kd.V_nil _ _ _ _ _ | exact Kd.Q_nil _ _ _ _ _ | exact Kd.S_nil _ _ _ _ _, by repeat (first | (with_reducible first | exact HB.out | apply below_alloc | apply pw_below_drewN | apply below_drew1) | exact HB.out)⟩
                            · rw [if_neg c37] at H
                              have c37b0 : decide (0 ≤ t239) = false := decide_eq_false c37
                              clear c37
                              have HC40 := Aside0.mk H
                              clear H
                              obtain ⟨Ao41, co41, eo41⟩ := Kd.R_slice HO_8.out
                              subst eo41
                              go_upto_region 23 with (first | ((with_reducible refine gate_callee (f := 42) rfl ?_); refine goesL_ (some 43) rfl rfl Tryd.func42 (by kernel_rfl) rfl #[.slice A0 l0.length c0, .slice Ao41 t224.length co41] rfl (by (try simp only [List.map_toArray, List.map_cons, List.map_nil]); first | done | rfl | (simp only [List.length_drop, List.length_take]; rfl)) ?_; (with_reducible refine (r10_Walk.calls kj7 _ _ l0 _ _ t224 t232 t233 _ ?side1 ?side2 ?side3 ?side4 A14.out).mono ?_); (case side1 => repeat (first | exact (Kd.C_below HR0.out HB.out) | (with_reducible refine Kd.C_alloc ?_ _) | (with_reducible refine Kd.C_drewN ?_ _) | (with_reducible refine Kd.C_drew ?_))); (case side2 => exact HC0.out); (case side3 => repeat (first | exact (Kd.R_reads' HO_8.out).2.2 | (with_reducible refine Kd.C_alloc ?_ _) | (with_reducible refine Kd.C_drewN ?_ _) | (with_reducible refine Kd.C_drew ?_))); (case side4 => exact (Kd.R_reads' HO_8.out).2.1); rintro e w' ⟨rfl, ⟨nd, rfl⟩⟩; refine ⟨_, rfl, ?_⟩; obtain ⟨Ao42, co42, eo42⟩ := Kd.R_slice HO_10.out; subst eo42) | ((with_reducible refine gate_callee (f := 43) rfl ?_); refine goesL_ (some 54) rfl rfl Tryd.func43 (by kernel_rfl) rfl #[.slice A0 l0.length c0, .slice Ao42 t228.length co42] rfl (by (try simp only [List.map_toArray, List.map_cons, List.map_nil]); first | done | rfl | (simp only [List.length_drop, List.length_take]; rfl)) ?_; (with_reducible refine (r10_Above.calls kj7 _ _ l0 _ _ t228 t234 t235 _ ?side1 ?side2 ?side3 ?side4 A18.out).mono ?_); (case side1 => repeat (first | exact (Kd.C_below HR0.out (by repeat (first | (with_reducible first | exact HB.out | apply below_alloc | apply pw_below_drewN | apply below_drew1) | exact HB.out))) | (with_reducible refine Kd.C_alloc ?_ _) | (with_reducible refine Kd.C_drewN ?_ _) | (with_reducible refine Kd.C_drew ?_))); (case side2 => exact HC0.out); (case side3 => repeat (first | exact (Kd.R_reads' HO_10.out).2.2 | (with_reducible refine Kd.C_alloc ?_ _) | (with_reducible refine Kd.C_drewN ?_ _) | (with_reducible refine Kd.C_drew ?_))); (case side4 => exact (Kd.R_reads' HO_10.out).2.1); rintro e w' ⟨rfl, ⟨nd, rfl⟩⟩; refine ⟨_, rfl, ?_⟩) | ((with_reducible refine gate_callee (f := 44) rfl ?_); refine goesL_ (some 63) rfl rfl Tryd.func44 (by kernel_rfl) rfl #[.slice A0 l0.length c0, .int .i64 t234, .int .i64 t232] rfl (by (try simp only [List.map_toArray, List.map_cons, List.map_nil]); first | done | rfl | (simp only [List.length_drop, List.length_take]; rfl)) ?_; (with_reducible refine (r10_In.calls kj7 _ _ l0 t234 t232 false _ ?side1 ?side2 A20.out).mono ?_); (case side1 => repeat (first | exact (Kd.C_below HR0.out (by repeat (first | (with_reducible first | exact HB.out | apply below_alloc | apply pw_below_drewN | apply below_drew1) | exact HB.out))) | (with_reducible refine Kd.C_alloc ?_ _) | (with_reducible refine Kd.C_drewN ?_ _) | (with_reducible refine Kd.C_drew ?_))); (case side2 => exact HC0.out); rintro e w' ⟨rfl, ⟨nd, rfl⟩⟩; refine ⟨_, rfl, ?_⟩; have p237 : 0 ≤ ((ji24) : Int) := of_decide_eq_true (by first | (with_reducible assumption) | assumption); have q237 : (ji24) < (t228.length : Int) := of_decide_eq_true (by first | (with_reducible assumption) | assumption); obtain ⟨ad237, e237, hx237_0⟩ := Kd.at_string (Kd.R_reads' HO_10.out).2.2 (ji24) p237 q237; cases e237; replace p237 := eq_true p237; replace q237 := eq_true q237; have p238 : 0 ≤ (t234 : Int) := of_decide_eq_true (by first | (with_reducible assumption) | assumption); have q238 : t234 < (l0.length : Int) := of_decide_eq_true (by first | (with_reducible assumption) | assumption); obtain ⟨ad238, e238, hx238_0, hx238_1, hx238_2, hx238_3, hx238_4⟩ := at_T34 HR0.out t234 p238 q238; cases e238; replace hx238_0 := (HB.out.cell (World.block_lt_of_cell? w _ hx238_0)).trans hx238_0; replace hx238_1 := (HB.out.cell (World.block_lt_of_cell? w _ hx238_1)).trans hx238_1; replace hx238_2 := (HB.out.cell (World.block_lt_of_cell? w _ hx238_2)).trans hx238_2; replace hx238_3 := (HB.out.cell (World.block_lt_of_cell? w _ hx238_3)).trans hx238_3; replace hx238_4 := (HB.out.cell (World.block_lt_of_cell? w _ hx238_4)).trans hx238_4; replace p238 := eq_true p238; replace q238 := eq_true q238) | ((with_reducible refine gate_callee (f := 45) rfl ?_); refine goesL_ (some 77) rfl rfl Tryd.func45 (by kernel_rfl) rfl #[.slice (some ad238) l0.length c0, .int .u32 ((rd_T34 l0 t234).f0), .string (rdOf ByteArray.empty t228 (ji24))] rfl (by (try simp only [List.map_toArray, List.map_cons, List.map_nil]); first | done | (simp only [hji24]; rfl) | rfl | (simp only [List.length_drop, List.length_take]; rfl)) ?_; (with_reducible refine (r10_Kid.calls kj7 _ _ l0 ((rd_T34 l0 t234).f0) (rdOf ByteArray.empty t228 (ji24)) t239 _ ?side1 ?side2 A29.out).mono ?_); (case side1 => repeat (first | exact (Kd.C_below HR0.out (by repeat (first | (with_reducible first | exact HB.out | apply below_alloc | apply pw_below_drewN | apply below_drew1) | exact HB.out))) | (with_reducible refine Kd.C_alloc ?_ _) | (with_reducible refine Kd.C_drewN ?_ _) | (with_reducible refine Kd.C_drew ?_))); (case side2 => exact HC0.out); rintro e w' ⟨rfl, ⟨nd, rfl⟩⟩; refine ⟨_, rfl, ?_⟩))
                              (try simp only [Act.put, List.setIfInBounds_toArray, List.set_cons_zero, List.set_cons_succ])
                              go_cut [106] (fun v106 wc => ∃ (kq : Nat) (x106_39 : Bool), v106 = .bool x106_39 ∧ Aside0 (r10_Rename.j1 kq l0 t232 t234 (rdOf ByteArray.empty t228 (ji24)) x106_39 = some (r1, r2)) ∧ Aside0 (kq ≤ kj7) ∧ Aside0 (Below w.heap.size w wc))
                              case first =>
                                have H := HC40.out
                                clear HC40
                                by_cases c43 : 0 ≤ t232
                                · rw [if_pos c43] at H
                                  have c43b0 : decide (0 ≤ t232) = true := decide_eq_true c43
                                  clear c43
                                  (first | rw [c43b0] | (simp only [i64_w, i32_w]; rw [c43b0]) | skip)
                                  by_cases c44 : t232 < (l0.length : Int)
                                  · rw [if_pos c44] at H
                                    have c44b0 : decide (t232 < (l0.length : Int)) = true := decide_eq_true c44
                                    clear c44
                                    by_cases c45 : ((rd_T34 l0 t234).f0) = ((rd_T34 l0 t232).f1)
                                    · rw [if_pos c45] at H
                                      have c45b0 : (((rd_T34 l0 t234).f0) == ((rd_T34 l0 t232).f1)) = true := beq_iff_eq.mpr c45
                                      have c45b1 : (((rd_T34 l0 t234).f0) != ((rd_T34 l0 t232).f1)) = false := bne_eq_false_iff_eq.mpr c45
                                      clear c45
                                      have H' := Aside0.mk H
                                      clear H
                                      try go_wp2
                                      try (refine fold_ (wc := wc) ?_; intro wc md hmd; have m0_ := Aside0.mk (R_eq hmd HO_8.out); have m1_ := Aside0.mk (R_eq hmd HO_10.out); have m2_ := Aside0.mk (below_eq hmd HB.out); clear HO_8 HO_10 HB; have HO_8 := m0_; have HO_10 := m1_; have HB := m2_; clear hmd m0_ m1_ m2_)
                                      have n0_ := Aside0.mk (Kd.R_drew HO_8.out)
                                      have n1_ := Aside0.mk (Kd.R_drew HO_10.out)
                                      have n2_ := Aside0.mk (below_drew1 HB.out)
                                      clear HO_8
                                      clear HO_10
                                      clear HB
                                      have HO_8 := n0_
                                      have HO_10 := n1_
                                      have HB := n2_
                                      clear n0_ n1_ n2_
                                      have p246 : 0 ≤ (t234 : Int) := of_decide_eq_true (by first | (with_reducible assumption) | assumption)
                                      have q246 : t234 < (l0.length : Int) := of_decide_eq_true (by first | (with_reducible assumption) | assumption)
                                      obtain ⟨ad246, e246, hx246_0, hx246_1, hx246_2, hx246_3, hx246_4⟩ := at_T34 HR0.out t234 p246 q246
                                      have hw246_4 := hx246_4
                                      have hw246_3 := hx246_3
                                      have hw246_2 := hx246_2
                                      have hw246_1 := hx246_1
                                      have hw246_0 := hx246_0
                                      obtain rfl : ad238 = ad246 := (by injection e246)
                                      replace hx246_0 := (HB.out.cell (World.block_lt_of_cell? w _ hx246_0)).trans hx246_0
                                      replace hx246_1 := (HB.out.cell (World.block_lt_of_cell? w _ hx246_1)).trans hx246_1
                                      replace hx246_2 := (HB.out.cell (World.block_lt_of_cell? w _ hx246_2)).trans hx246_2
                                      replace hx246_3 := (HB.out.cell (World.block_lt_of_cell? w _ hx246_3)).trans hx246_3
                                      replace hx246_4 := (HB.out.cell (World.block_lt_of_cell? w _ hx246_4)).trans hx246_4
                                      replace p246 := eq_true p246
                                      replace q246 := eq_true q246
                                      have p247 : 0 ≤ (t232 : Int) := of_decide_eq_true (by first | (with_reducible assumption) | assumption)
                                      have q247 : t232 < (l0.length : Int) := of_decide_eq_true (by first | (with_reducible assumption) | assumption)
                                      obtain ⟨ad247, e247, hx247_0, hx247_1, hx247_2, hx247_3, hx247_4⟩ := at_T34 HR0.out t232 p247 q247
                                      have hw247_4 := hx247_4
                                      have hw247_3 := hx247_3
                                      have hw247_2 := hx247_2
                                      have hw247_1 := hx247_1
                                      have hw247_0 := hx247_0
                                      obtain rfl : ad238 = ad247 := (by injection e247)
                                      replace hx247_0 := (HB.out.cell (World.block_lt_of_cell? w _ hx247_0)).trans hx247_0
                                      replace hx247_1 := (HB.out.cell (World.block_lt_of_cell? w _ hx247_1)).trans hx247_1
                                      replace hx247_2 := (HB.out.cell (World.block_lt_of_cell? w _ hx247_2)).trans hx247_2
                                      replace hx247_3 := (HB.out.cell (World.block_lt_of_cell? w _ hx247_3)).trans hx247_3
                                      replace hx247_4 := (HB.out.cell (World.block_lt_of_cell? w _ hx247_4)).trans hx247_4
                                      replace p247 := eq_true p247
                                      replace q247 := eq_true q247
                                      refine start_ (n := 21) (S := fun w' => w'.cell? (ad238.add ((t234).toNat * 5)) = some (.int .u32 ((rd_T34 l0 t234).f0)) ∧ w'.cell? ⟨(ad238.add ((t234).toNat * 5)).block, (ad238.add ((t234).toNat * 5)).off + 1, none⟩ = some (.int .u32 ((rd_T34 l0 t234).f1)) ∧ w'.cell? ⟨(ad238.add ((t234).toNat * 5)).block, (ad238.add ((t234).toNat * 5)).off + 2, none⟩ = some (.string ((rd_T34 l0 t234).f2)) ∧ w'.cell? ⟨(ad238.add ((t234).toNat * 5)).block, (ad238.add ((t234).toNat * 5)).off + 3, none⟩ = some (.bool ((rd_T34 l0 t234).f3)) ∧ w'.cell? ⟨(ad238.add ((t234).toNat * 5)).block, (ad238.add ((t234).toNat * 5)).off + 4, none⟩ = some (.int .u32 ((rd_T34 l0 t234).f4)) ∧ w'.cell? (ad238.add ((t232).toNat * 5)) = some (.int .u32 ((rd_T34 l0 t232).f0)) ∧ w'.cell? ⟨(ad238.add ((t232).toNat * 5)).block, (ad238.add ((t232).toNat * 5)).off + 1, none⟩ = some (.int .u32 ((rd_T34 l0 t232).f1)) ∧ w'.cell? ⟨(ad238.add ((t232).toNat * 5)).block, (ad238.add ((t232).toNat * 5)).off + 2, none⟩ = some (.string ((rd_T34 l0 t232).f2)) ∧ w'.cell? ⟨(ad238.add ((t232).toNat * 5)).block, (ad238.add ((t232).toNat * 5)).off + 3, none⟩ = some (.bool ((rd_T34 l0 t232).f3)) ∧ w'.cell? ⟨(ad238.add ((t232).toNat * 5)).block, (ad238.add ((t232).toNat * 5)).off + 4, none⟩ = some (.int .u32 ((rd_T34 l0 t232).f4))) (ds := []) #[false, false, false, false, false, false, false, false, false, false, false, false, false, false, false, false, false, false, false, false, false] (by kernel_rfl) rfl rfl ⟨((HB.out.cell (World.block_lt_of_cell? w _ hw246_0)).trans hw246_0), ((HB.out.cell (World.block_lt_of_cell? w _ hw246_1)).trans hw246_1), ((HB.out.cell (World.block_lt_of_cell? w _ hw246_2)).trans hw246_2), ((HB.out.cell (World.block_lt_of_cell? w _ hw246_3)).trans hw246_3), ((HB.out.cell (World.block_lt_of_cell? w _ hw246_4)).trans hw246_4), ((HB.out.cell (World.block_lt_of_cell? w _ hw247_0)).trans hw247_0), ((HB.out.cell (World.block_lt_of_cell? w _ hw247_1)).trans hw247_1), ((HB.out.cell (World.block_lt_of_cell? w _ hw247_2)).trans hw247_2), ((HB.out.cell (World.block_lt_of_cell? w _ hw247_3)).trans hw247_3), ((HB.out.cell (World.block_lt_of_cell? w _ hw247_4)).trans hw247_4)⟩ (fun hHeld => ?_); refine with_tabW r10_Rename.tab23 r10_Rename.bits23 (fun HT_ HW_ => ?_)
                                      generalize wc.drew = w46 at HO_8 HO_10 HB hx246_0 hx246_1 hx246_2 hx246_3 hx246_4 hx247_0 hx247_1 hx247_2 hx247_3 hx247_4 hHeld ⊢
                                      refine pure_ (i := 0) (N := some 86) (v := ?_) (a' := ?_) #[true, false, false, false, false, false, false, false, false, false, false, false, false, false, false, false, false, false, false, false, false] rfl rfl (any_of HT_.out (by kernel_rfl)) (fun _ _ _ h => h) (Or.inl ⟨by rfl, ?_⟩) ?_ ?_
                                      rotate_left
                                      · intro w'
                                        go_simp
                                        with_reducible rfl
                                      rotate_left
                                      · simp only [Act.put, List.setIfInBounds_toArray, List.set_cons_zero, List.set_cons_succ, i64_w, i32_w]
                                        rfl
                                      refine pure_ (i := 1) (N := some 87) (v := ?_) (a' := ?_) #[true, true, false, false, false, false, false, false, false, false, false, false, false, false, false, false, false, false, false, false, false] rfl rfl (any_of HT_.out (by kernel_rfl)) (fun _ _ _ h => h) (Or.inl ⟨by rfl, ?_⟩) ?_ ?_
                                      rotate_left
                                      · intro w'
                                        go_simp
                                        with_reducible rfl
                                      rotate_left
                                      · simp only [Act.put, List.setIfInBounds_toArray, List.set_cons_zero, List.set_cons_succ, i64_w, i32_w]
                                        rfl
                                      refine pure_ (i := 2) (N := some 88) (v := ?_) (a' := ?_) #[true, true, true, false, false, false, false, false, false, false, false, false, false, false, false, false, false, false, false, false, false] rfl rfl (any_of HT_.out (by kernel_rfl)) (fun _ _ _ h => h) (Or.inl ⟨by rfl, ?_⟩) ?_ ?_
                                      rotate_left
                                      · intro w'
                                        go_simp
                                        with_reducible rfl
                                      rotate_left
                                      · simp only [Act.put, List.setIfInBounds_toArray, List.set_cons_zero, List.set_cons_succ, i64_w, i32_w]
                                        rfl
                                      refine pure_ (i := 3) (N := some 89) (v := ?_) (a' := ?_) #[true, true, true, true, false, false, false, false, false, false, false, false, false, false, false, false, false, false, false, false, false] rfl rfl (any_of HT_.out (by kernel_rfl)) (fun _ _ _ h => h) (Or.inl ⟨by rfl, ?_⟩) ?_ ?_
                                      rotate_left
                                      · intro w'
                                        go_simp
                                        with_reducible rfl
                                      rotate_left
                                      · simp only [Act.put, List.setIfInBounds_toArray, List.set_cons_zero, List.set_cons_succ, i64_w, i32_w]
                                        rfl
                                      refine pure_ (i := 5) (N := some 91) (v := ?_) (a' := ?_) #[true, true, true, true, false, true, false, false, false, false, false, false, false, false, false, false, false, false, false, false, false] rfl rfl (any_of HT_.out (by kernel_rfl)) (fun _ _ _ h => h) (Or.inl ⟨by rfl, ?_⟩) ?_ ?_
                                      rotate_left
                                      · intro w'
                                        go_simp
                                        with_reducible rfl
                                      rotate_left
                                      · simp only [Act.put, List.setIfInBounds_toArray, List.set_cons_zero, List.set_cons_succ, i64_w, i32_w]
                                        rfl
                                      refine pure_ (i := 6) (N := some 92) (v := ?_) (a' := ?_) #[true, true, true, true, false, true, true, false, false, false, false, false, false, false, false, false, false, false, false, false, false] rfl rfl (any_of HT_.out (by kernel_rfl)) (fun _ _ _ h => h) (Or.inl ⟨by rfl, ?_⟩) ?_ ?_
                                      rotate_left
                                      · intro w'
                                        go_simp
                                        with_reducible rfl
                                      rotate_left
                                      · simp only [Act.put, List.setIfInBounds_toArray, List.set_cons_zero, List.set_cons_succ, i64_w, i32_w]
                                        rfl
                                      refine pure_ (i := 7) (N := some 93) (v := ?_) (a' := ?_) #[true, true, true, true, false, true, true, true, false, false, false, false, false, false, false, false, false, false, false, false, false] rfl rfl (any_of HT_.out (by kernel_rfl)) (fun _ _ _ h => h) (Or.inl ⟨by rfl, ?_⟩) ?_ ?_
                                      rotate_left
                                      · intro w'
                                        go_simp
                                        with_reducible rfl
                                      rotate_left
                                      · simp only [Act.put, List.setIfInBounds_toArray, List.set_cons_zero, List.set_cons_succ, i64_w, i32_w]
                                        rfl
                                      refine pure_ (i := 8) (N := some 94) (v := ?_) (a' := ?_) #[true, true, true, true, false, true, true, true, true, false, false, false, false, false, false, false, false, false, false, false, false] rfl rfl (any_of HT_.out (by kernel_rfl)) (fun _ _ _ h => h) (Or.inl ⟨by rfl, ?_⟩) ?_ ?_
                                      rotate_left
                                      · intro w'
                                        go_simp
                                        with_reducible rfl
                                      rotate_left
                                      · simp only [Act.put, List.setIfInBounds_toArray, List.set_cons_zero, List.set_cons_succ, i64_w, i32_w]
                                        rfl
                                      refine take_ (i := 4) (N := some 90) (v := ?_) (a' := ?_) #[true, true, true, true, true, true, true, true, true, false, false, false, false, false, false, false, false, false, false, false, false] rfl rfl (take_ofW HT_.out HW_.out (by kernel_rfl)) (fun _ _ _ h => h) (Or.inl ⟨by rfl, ?_⟩) hHeld ?_ ?_
                                      rotate_left
                                      · rintro w' ⟨s0, s1, s2, s3, s4, s5, s6, s7, s8, s9⟩
                                        go_simp
                                        with_reducible rfl
                                      rotate_left
                                      · simp only [Act.put, List.setIfInBounds_toArray, List.set_cons_zero, List.set_cons_succ, i64_w, i32_w]
                                        rfl
                                      refine take_ (i := 9) (N := some 95) (v := ?_) (a' := ?_) #[true, true, true, true, true, true, true, true, true, true, false, false, false, false, false, false, false, false, false, false, false] rfl rfl (take_ofW HT_.out HW_.out (by kernel_rfl)) (fun _ _ _ h => h) (Or.inl ⟨by rfl, ?_⟩) hHeld ?_ ?_
                                      rotate_left
                                      · rintro w' ⟨s0, s1, s2, s3, s4, s5, s6, s7, s8, s9⟩
                                        go_simp
                                        with_reducible rfl
                                      rotate_left
                                      · simp only [Act.put, List.setIfInBounds_toArray, List.set_cons_zero, List.set_cons_succ, i64_w, i32_w]
                                        rfl
                                      refine pure_ (i := 10) (N := some 96) (v := ?_) (a' := ?_) #[true, true, true, true, true, true, true, true, true, true, true, false, false, false, false, false, false, false, false, false, false] rfl rfl (any_of HT_.out (by kernel_rfl)) (fun _ _ _ h => h) (Or.inl ⟨by rfl, ?_⟩) ?_ ?_
                                      rotate_left
                                      · intro w'
                                        go_simp
                                        with_reducible rfl
                                      rotate_left
                                      · simp only [Act.put, List.setIfInBounds_toArray, List.set_cons_zero, List.set_cons_succ, i64_w, i32_w]
                                        rfl
                                      refine pure_ (i := 11) (N := some 97) (v := ?_) (a' := ?_) #[true, true, true, true, true, true, true, true, true, true, true, true, false, false, false, false, false, false, false, false, false] rfl rfl (any_of HT_.out (by kernel_rfl)) (fun _ _ _ h => h) (Or.inl ⟨by rfl, ?_⟩) ?_ ?_
                                      rotate_left
                                      · intro w'
                                        go_simp
                                        with_reducible rfl
                                      rotate_left
                                      · simp only [Act.put, List.setIfInBounds_toArray, List.set_cons_zero, List.set_cons_succ, i64_w, i32_w]
                                        rfl
                                      refine pure_ (i := 12) (N := some 98) (v := undef) (a' := ?_) #[true, true, true, true, true, true, true, true, true, true, true, true, true, false, false, false, false, false, false, false, false] rfl rfl (any_of HT_.out (by kernel_rfl)) (fun _ _ _ h => h) (Or.inr ⟨by rfl, rfl⟩) ?_ ?_
                                      rotate_left
                                      · simp only [Act.put, List.setIfInBounds_toArray, List.set_cons_zero, List.set_cons_succ, i64_w, i32_w]
                                        rfl
                                      refine pure_ (i := 13) (N := some 99) (v := undef) (a' := ?_) #[true, true, true, true, true, true, true, true, true, true, true, true, true, true, false, false, false, false, false, false, false] rfl rfl (any_of HT_.out (by kernel_rfl)) (fun _ _ _ h => h) (Or.inr ⟨by rfl, rfl⟩) ?_ ?_
                                      rotate_left
                                      · simp only [Act.put, List.setIfInBounds_toArray, List.set_cons_zero, List.set_cons_succ, i64_w, i32_w]
                                        rfl
                                      refine pure_ (i := 14) (N := some 100) (v := undef) (a' := ?_) #[true, true, true, true, true, true, true, true, true, true, true, true, true, true, true, false, false, false, false, false, false] rfl rfl (any_of HT_.out (by kernel_rfl)) (fun _ _ _ h => h) (Or.inr ⟨by rfl, rfl⟩) ?_ ?_
                                      rotate_left
                                      · simp only [Act.put, List.setIfInBounds_toArray, List.set_cons_zero, List.set_cons_succ, i64_w, i32_w]
                                        rfl
                                      refine pure_ (i := 15) (N := some 101) (v := undef) (a' := ?_) #[true, true, true, true, true, true, true, true, true, true, true, true, true, true, true, true, false, false, false, false, false] rfl rfl (any_of HT_.out (by kernel_rfl)) (fun _ _ _ h => h) (Or.inr ⟨by rfl, rfl⟩) ?_ ?_
                                      rotate_left
                                      · simp only [Act.put, List.setIfInBounds_toArray, List.set_cons_zero, List.set_cons_succ, i64_w, i32_w]
                                        rfl
                                      refine pure_ (i := 16) (N := some 102) (v := undef) (a' := ?_) #[true, true, true, true, true, true, true, true, true, true, true, true, true, true, true, true, true, false, false, false, false] rfl rfl (any_of HT_.out (by kernel_rfl)) (fun _ _ _ h => h) (Or.inr ⟨by rfl, rfl⟩) ?_ ?_
                                      rotate_left
                                      · simp only [Act.put, List.setIfInBounds_toArray, List.set_cons_zero, List.set_cons_succ, i64_w, i32_w]
                                        rfl
                                      refine pure_ (i := 17) (N := some 103) (v := undef) (a' := ?_) #[true, true, true, true, true, true, true, true, true, true, true, true, true, true, true, true, true, true, false, false, false] rfl rfl (any_of HT_.out (by kernel_rfl)) (fun _ _ _ h => h) (Or.inr ⟨by rfl, rfl⟩) ?_ ?_
                                      rotate_left
                                      · simp only [Act.put, List.setIfInBounds_toArray, List.set_cons_zero, List.set_cons_succ, i64_w, i32_w]
                                        rfl
                                      refine pure_ (i := 18) (N := some 104) (v := undef) (a' := ?_) #[true, true, true, true, true, true, true, true, true, true, true, true, true, true, true, true, true, true, true, false, false] rfl rfl (any_of HT_.out (by kernel_rfl)) (fun _ _ _ h => h) (Or.inr ⟨by rfl, rfl⟩) ?_ ?_
                                      rotate_left
                                      · simp only [Act.put, List.setIfInBounds_toArray, List.set_cons_zero, List.set_cons_succ, i64_w, i32_w]
                                        rfl
                                      refine pure_ (i := 19) (N := some 105) (v := undef) (a' := ?_) #[true, true, true, true, true, true, true, true, true, true, true, true, true, true, true, true, true, true, true, true, false] rfl rfl (any_of HT_.out (by kernel_rfl)) (fun _ _ _ h => h) (Or.inr ⟨by rfl, rfl⟩) ?_ ?_
                                      rotate_left
                                      · simp only [Act.put, List.setIfInBounds_toArray, List.set_cons_zero, List.set_cons_succ, i64_w, i32_w]
                                        rfl
                                      refine pure_ (i := 20) (N := some 106) (v := ?_) (a' := ?_) #[true, true, true, true, true, true, true, true, true, true, true, true, true, true, true, true, true, true, true, true, true] rfl rfl (any_of HT_.out (by kernel_rfl)) (fun _ _ _ h => h) (Or.inl ⟨by rfl, ?_⟩) ?_ ?_
                                      rotate_left
                                      · intro w'
                                        go_simp
                                        with_reducible rfl
                                      rotate_left
                                      · simp only [Act.put, List.setIfInBounds_toArray, List.set_cons_zero, List.set_cons_succ, i64_w, i32_w]
                                        rfl
                                      refine done_ (done_of HT_.out (by kernel_rfl)) ?_
                                      try go_wp2
                                      go_meet
                                      case rel => exact ⟨_, (false), (by first | rfl | (simp; done) | (simp [*]; done)), H', ⟨by have := HJ7.out; first | omega | exact Nat.le_refl _⟩, ⟨by repeat (first | (with_reducible first | exact HB.out | apply below_alloc | apply pw_below_drewN | apply below_drew1) | exact HB.out)⟩⟩
                                    · rw [if_neg c45] at H
                                      have c45b0 : (((rd_T34 l0 t234).f0) == ((rd_T34 l0 t232).f1)) = false := beq_eq_false_iff_ne.mpr c45
                                      have c45b1 : (((rd_T34 l0 t234).f0) != ((rd_T34 l0 t232).f1)) = true := bne_iff_ne.mpr c45
                                      replace H := Option.bind_eq_some_iff.mp H
                                      obtain ⟨t249, A470, H⟩ := H
                                      replace H : (r10_Rename.j1 kj7 l0 t232 t234 (rdOf ByteArray.empty t228 (ji24)) (t249 == 12)) = some (r1, r2) := H
                                      have A47 := Aside0.mk A470
                                      clear A470
                                      have H' := Aside0.mk H
                                      clear H
                                      try go_wp2
                                      try (refine fold_ (wc := wc) ?_; intro wc md hmd; have m0_ := Aside0.mk (R_eq hmd HO_8.out); have m1_ := Aside0.mk (R_eq hmd HO_10.out); have m2_ := Aside0.mk (below_eq hmd HB.out); clear HO_8 HO_10 HB; have HO_8 := m0_; have HO_10 := m1_; have HB := m2_; clear hmd m0_ m1_ m2_)
                                      have n0_ := Aside0.mk (Kd.R_drew HO_8.out)
                                      have n1_ := Aside0.mk (Kd.R_drew HO_10.out)
                                      have n2_ := Aside0.mk (below_drew1 HB.out)
                                      clear HO_8
                                      clear HO_10
                                      clear HB
                                      have HO_8 := n0_
                                      have HO_10 := n1_
                                      have HB := n2_
                                      clear n0_ n1_ n2_
                                      have p246 : 0 ≤ (t234 : Int) := of_decide_eq_true (by first | (with_reducible assumption) | assumption)
                                      have q246 : t234 < (l0.length : Int) := of_decide_eq_true (by first | (with_reducible assumption) | assumption)
                                      obtain ⟨ad246, e246, hx246_0, hx246_1, hx246_2, hx246_3, hx246_4⟩ := at_T34 HR0.out t234 p246 q246
                                      have hw246_4 := hx246_4
                                      have hw246_3 := hx246_3
                                      have hw246_2 := hx246_2
                                      have hw246_1 := hx246_1
                                      have hw246_0 := hx246_0
                                      obtain rfl : ad238 = ad246 := (by injection e246)
                                      replace hx246_0 := (HB.out.cell (World.block_lt_of_cell? w _ hx246_0)).trans hx246_0
                                      replace hx246_1 := (HB.out.cell (World.block_lt_of_cell? w _ hx246_1)).trans hx246_1
                                      replace hx246_2 := (HB.out.cell (World.block_lt_of_cell? w _ hx246_2)).trans hx246_2
                                      replace hx246_3 := (HB.out.cell (World.block_lt_of_cell? w _ hx246_3)).trans hx246_3
                                      replace hx246_4 := (HB.out.cell (World.block_lt_of_cell? w _ hx246_4)).trans hx246_4
                                      replace p246 := eq_true p246
                                      replace q246 := eq_true q246
                                      have p247 : 0 ≤ (t232 : Int) := of_decide_eq_true (by first | (with_reducible assumption) | assumption)
                                      have q247 : t232 < (l0.length : Int) := of_decide_eq_true (by first | (with_reducible assumption) | assumption)
                                      obtain ⟨ad247, e247, hx247_0, hx247_1, hx247_2, hx247_3, hx247_4⟩ := at_T34 HR0.out t232 p247 q247
                                      have hw247_4 := hx247_4
                                      have hw247_3 := hx247_3
                                      have hw247_2 := hx247_2
                                      have hw247_1 := hx247_1
                                      have hw247_0 := hx247_0
                                      obtain rfl : ad238 = ad247 := (by injection e247)
                                      replace hx247_0 := (HB.out.cell (World.block_lt_of_cell? w _ hx247_0)).trans hx247_0
                                      replace hx247_1 := (HB.out.cell (World.block_lt_of_cell? w _ hx247_1)).trans hx247_1
                                      replace hx247_2 := (HB.out.cell (World.block_lt_of_cell? w _ hx247_2)).trans hx247_2
                                      replace hx247_3 := (HB.out.cell (World.block_lt_of_cell? w _ hx247_3)).trans hx247_3
                                      replace hx247_4 := (HB.out.cell (World.block_lt_of_cell? w _ hx247_4)).trans hx247_4
                                      replace p247 := eq_true p247
                                      replace q247 := eq_true q247
                                      have p248 : 0 ≤ (t234 : Int) := of_decide_eq_true (by first | (with_reducible assumption) | assumption)
                                      have q248 : t234 < (l0.length : Int) := of_decide_eq_true (by first | (with_reducible assumption) | assumption)
                                      obtain ⟨ad248, e248, hx248_0, hx248_1, hx248_2, hx248_3, hx248_4⟩ := at_T34 HR0.out t234 p248 q248
                                      have hw248_4 := hx248_4
                                      have hw248_3 := hx248_3
                                      have hw248_2 := hx248_2
                                      have hw248_1 := hx248_1
                                      have hw248_0 := hx248_0
                                      obtain rfl : ad238 = ad248 := (by injection e248)
                                      replace hx248_0 := (HB.out.cell (World.block_lt_of_cell? w _ hx248_0)).trans hx248_0
                                      replace hx248_1 := (HB.out.cell (World.block_lt_of_cell? w _ hx248_1)).trans hx248_1
                                      replace hx248_2 := (HB.out.cell (World.block_lt_of_cell? w _ hx248_2)).trans hx248_2
                                      replace hx248_3 := (HB.out.cell (World.block_lt_of_cell? w _ hx248_3)).trans hx248_3
                                      replace hx248_4 := (HB.out.cell (World.block_lt_of_cell? w _ hx248_4)).trans hx248_4
                                      replace p248 := eq_true p248
                                      replace q248 := eq_true q248
                                      refine start_ (n := 21) (S := fun w' => w'.cell? (ad238.add ((t234).toNat * 5)) = some (.int .u32 ((rd_T34 l0 t234).f0)) ∧ w'.cell? ⟨(ad238.add ((t234).toNat * 5)).block, (ad238.add ((t234).toNat * 5)).off + 1, none⟩ = some (.int .u32 ((rd_T34 l0 t234).f1)) ∧ w'.cell? ⟨(ad238.add ((t234).toNat * 5)).block, (ad238.add ((t234).toNat * 5)).off + 2, none⟩ = some (.string ((rd_T34 l0 t234).f2)) ∧ w'.cell? ⟨(ad238.add ((t234).toNat * 5)).block, (ad238.add ((t234).toNat * 5)).off + 3, none⟩ = some (.bool ((rd_T34 l0 t234).f3)) ∧ w'.cell? ⟨(ad238.add ((t234).toNat * 5)).block, (ad238.add ((t234).toNat * 5)).off + 4, none⟩ = some (.int .u32 ((rd_T34 l0 t234).f4)) ∧ w'.cell? (ad238.add ((t232).toNat * 5)) = some (.int .u32 ((rd_T34 l0 t232).f0)) ∧ w'.cell? ⟨(ad238.add ((t232).toNat * 5)).block, (ad238.add ((t232).toNat * 5)).off + 1, none⟩ = some (.int .u32 ((rd_T34 l0 t232).f1)) ∧ w'.cell? ⟨(ad238.add ((t232).toNat * 5)).block, (ad238.add ((t232).toNat * 5)).off + 2, none⟩ = some (.string ((rd_T34 l0 t232).f2)) ∧ w'.cell? ⟨(ad238.add ((t232).toNat * 5)).block, (ad238.add ((t232).toNat * 5)).off + 3, none⟩ = some (.bool ((rd_T34 l0 t232).f3)) ∧ w'.cell? ⟨(ad238.add ((t232).toNat * 5)).block, (ad238.add ((t232).toNat * 5)).off + 4, none⟩ = some (.int .u32 ((rd_T34 l0 t232).f4)) ∧ w'.cell? (ad238.add ((t234).toNat * 5)) = some (.int .u32 ((rd_T34 l0 t234).f0)) ∧ w'.cell? ⟨(ad238.add ((t234).toNat * 5)).block, (ad238.add ((t234).toNat * 5)).off + 1, none⟩ = some (.int .u32 ((rd_T34 l0 t234).f1)) ∧ w'.cell? ⟨(ad238.add ((t234).toNat * 5)).block, (ad238.add ((t234).toNat * 5)).off + 2, none⟩ = some (.string ((rd_T34 l0 t234).f2)) ∧ w'.cell? ⟨(ad238.add ((t234).toNat * 5)).block, (ad238.add ((t234).toNat * 5)).off + 3, none⟩ = some (.bool ((rd_T34 l0 t234).f3)) ∧ w'.cell? ⟨(ad238.add ((t234).toNat * 5)).block, (ad238.add ((t234).toNat * 5)).off + 4, none⟩ = some (.int .u32 ((rd_T34 l0 t234).f4))) (ds := []) #[false, false, false, false, false, false, false, false, false, false, false, false, false, false, false, false, false, false, false, false, false] (by kernel_rfl) rfl rfl ⟨((HB.out.cell (World.block_lt_of_cell? w _ hw246_0)).trans hw246_0), ((HB.out.cell (World.block_lt_of_cell? w _ hw246_1)).trans hw246_1), ((HB.out.cell (World.block_lt_of_cell? w _ hw246_2)).trans hw246_2), ((HB.out.cell (World.block_lt_of_cell? w _ hw246_3)).trans hw246_3), ((HB.out.cell (World.block_lt_of_cell? w _ hw246_4)).trans hw246_4), ((HB.out.cell (World.block_lt_of_cell? w _ hw247_0)).trans hw247_0), ((HB.out.cell (World.block_lt_of_cell? w _ hw247_1)).trans hw247_1), ((HB.out.cell (World.block_lt_of_cell? w _ hw247_2)).trans hw247_2), ((HB.out.cell (World.block_lt_of_cell? w _ hw247_3)).trans hw247_3), ((HB.out.cell (World.block_lt_of_cell? w _ hw247_4)).trans hw247_4), ((HB.out.cell (World.block_lt_of_cell? w _ hw248_0)).trans hw248_0), ((HB.out.cell (World.block_lt_of_cell? w _ hw248_1)).trans hw248_1), ((HB.out.cell (World.block_lt_of_cell? w _ hw248_2)).trans hw248_2), ((HB.out.cell (World.block_lt_of_cell? w _ hw248_3)).trans hw248_3), ((HB.out.cell (World.block_lt_of_cell? w _ hw248_4)).trans hw248_4)⟩ (fun hHeld => ?_); refine with_tabW r10_Rename.tab23 r10_Rename.bits23 (fun HT_ HW_ => ?_)
                                      generalize wc.drew = w48 at HO_8 HO_10 HB hx246_0 hx246_1 hx246_2 hx246_3 hx246_4 hx247_0 hx247_1 hx247_2 hx247_3 hx247_4 hx248_0 hx248_1 hx248_2 hx248_3 hx248_4 hHeld ⊢
                                      refine pure_ (i := 0) (N := some 86) (v := ?_) (a' := ?_) #[true, false, false, false, false, false, false, false, false, false, false, false, false, false, false, false, false, false, false, false, false] rfl rfl (any_of HT_.out (by kernel_rfl)) (fun _ _ _ h => h) (Or.inl ⟨by rfl, ?_⟩) ?_ ?_
                                      rotate_left
                                      · intro w'
                                        go_simp
                                        with_reducible rfl
                                      rotate_left
                                      · simp only [Act.put, List.setIfInBounds_toArray, List.set_cons_zero, List.set_cons_succ, i64_w, i32_w]
                                        rfl
                                      refine pure_ (i := 1) (N := some 87) (v := ?_) (a' := ?_) #[true, true, false, false, false, false, false, false, false, false, false, false, false, false, false, false, false, false, false, false, false] rfl rfl (any_of HT_.out (by kernel_rfl)) (fun _ _ _ h => h) (Or.inl ⟨by rfl, ?_⟩) ?_ ?_
                                      rotate_left
                                      · intro w'
                                        go_simp
                                        with_reducible rfl
                                      rotate_left
                                      · simp only [Act.put, List.setIfInBounds_toArray, List.set_cons_zero, List.set_cons_succ, i64_w, i32_w]
                                        rfl
                                      refine pure_ (i := 2) (N := some 88) (v := ?_) (a' := ?_) #[true, true, true, false, false, false, false, false, false, false, false, false, false, false, false, false, false, false, false, false, false] rfl rfl (any_of HT_.out (by kernel_rfl)) (fun _ _ _ h => h) (Or.inl ⟨by rfl, ?_⟩) ?_ ?_
                                      rotate_left
                                      · intro w'
                                        go_simp
                                        with_reducible rfl
                                      rotate_left
                                      · simp only [Act.put, List.setIfInBounds_toArray, List.set_cons_zero, List.set_cons_succ, i64_w, i32_w]
                                        rfl
                                      refine pure_ (i := 3) (N := some 89) (v := ?_) (a' := ?_) #[true, true, true, true, false, false, false, false, false, false, false, false, false, false, false, false, false, false, false, false, false] rfl rfl (any_of HT_.out (by kernel_rfl)) (fun _ _ _ h => h) (Or.inl ⟨by rfl, ?_⟩) ?_ ?_
                                      rotate_left
                                      · intro w'
                                        go_simp
                                        with_reducible rfl
                                      rotate_left
                                      · simp only [Act.put, List.setIfInBounds_toArray, List.set_cons_zero, List.set_cons_succ, i64_w, i32_w]
                                        rfl
                                      refine pure_ (i := 5) (N := some 91) (v := ?_) (a' := ?_) #[true, true, true, true, false, true, false, false, false, false, false, false, false, false, false, false, false, false, false, false, false] rfl rfl (any_of HT_.out (by kernel_rfl)) (fun _ _ _ h => h) (Or.inl ⟨by rfl, ?_⟩) ?_ ?_
                                      rotate_left
                                      · intro w'
                                        go_simp
                                        with_reducible rfl
                                      rotate_left
                                      · simp only [Act.put, List.setIfInBounds_toArray, List.set_cons_zero, List.set_cons_succ, i64_w, i32_w]
                                        rfl
                                      refine pure_ (i := 6) (N := some 92) (v := ?_) (a' := ?_) #[true, true, true, true, false, true, true, false, false, false, false, false, false, false, false, false, false, false, false, false, false] rfl rfl (any_of HT_.out (by kernel_rfl)) (fun _ _ _ h => h) (Or.inl ⟨by rfl, ?_⟩) ?_ ?_
                                      rotate_left
                                      · intro w'
                                        go_simp
                                        with_reducible rfl
                                      rotate_left
                                      · simp only [Act.put, List.setIfInBounds_toArray, List.set_cons_zero, List.set_cons_succ, i64_w, i32_w]
                                        rfl
                                      refine pure_ (i := 7) (N := some 93) (v := ?_) (a' := ?_) #[true, true, true, true, false, true, true, true, false, false, false, false, false, false, false, false, false, false, false, false, false] rfl rfl (any_of HT_.out (by kernel_rfl)) (fun _ _ _ h => h) (Or.inl ⟨by rfl, ?_⟩) ?_ ?_
                                      rotate_left
                                      · intro w'
                                        go_simp
                                        with_reducible rfl
                                      rotate_left
                                      · simp only [Act.put, List.setIfInBounds_toArray, List.set_cons_zero, List.set_cons_succ, i64_w, i32_w]
                                        rfl
                                      refine pure_ (i := 8) (N := some 94) (v := ?_) (a' := ?_) #[true, true, true, true, false, true, true, true, true, false, false, false, false, false, false, false, false, false, false, false, false] rfl rfl (any_of HT_.out (by kernel_rfl)) (fun _ _ _ h => h) (Or.inl ⟨by rfl, ?_⟩) ?_ ?_
                                      rotate_left
                                      · intro w'
                                        go_simp
                                        with_reducible rfl
                                      rotate_left
                                      · simp only [Act.put, List.setIfInBounds_toArray, List.set_cons_zero, List.set_cons_succ, i64_w, i32_w]
                                        rfl
                                      refine take_ (i := 4) (N := some 90) (v := ?_) (a' := ?_) #[true, true, true, true, true, true, true, true, true, false, false, false, false, false, false, false, false, false, false, false, false] rfl rfl (take_ofW HT_.out HW_.out (by kernel_rfl)) (fun _ _ _ h => h) (Or.inl ⟨by rfl, ?_⟩) hHeld ?_ ?_
                                      rotate_left
                                      · rintro w' ⟨s0, s1, s2, s3, s4, s5, s6, s7, s8, s9, s10, s11, s12, s13, s14⟩
                                        go_simp
                                        with_reducible rfl
                                      rotate_left
                                      · simp only [Act.put, List.setIfInBounds_toArray, List.set_cons_zero, List.set_cons_succ, i64_w, i32_w]
                                        rfl
                                      refine take_ (i := 9) (N := some 95) (v := ?_) (a' := ?_) #[true, true, true, true, true, true, true, true, true, true, false, false, false, false, false, false, false, false, false, false, false] rfl rfl (take_ofW HT_.out HW_.out (by kernel_rfl)) (fun _ _ _ h => h) (Or.inl ⟨by rfl, ?_⟩) hHeld ?_ ?_
                                      rotate_left
                                      · rintro w' ⟨s0, s1, s2, s3, s4, s5, s6, s7, s8, s9, s10, s11, s12, s13, s14⟩
                                        go_simp
                                        with_reducible rfl
                                      rotate_left
                                      · simp only [Act.put, List.setIfInBounds_toArray, List.set_cons_zero, List.set_cons_succ, i64_w, i32_w]
                                        rfl
                                      refine pure_ (i := 10) (N := some 96) (v := ?_) (a' := ?_) #[true, true, true, true, true, true, true, true, true, true, true, false, false, false, false, false, false, false, false, false, false] rfl rfl (any_of HT_.out (by kernel_rfl)) (fun _ _ _ h => h) (Or.inl ⟨by rfl, ?_⟩) ?_ ?_
                                      rotate_left
                                      · intro w'
                                        go_simp
                                        with_reducible rfl
                                      rotate_left
                                      · simp only [Act.put, List.setIfInBounds_toArray, List.set_cons_zero, List.set_cons_succ, i64_w, i32_w]
                                        rfl
                                      refine pure_ (i := 11) (N := some 97) (v := ?_) (a' := ?_) #[true, true, true, true, true, true, true, true, true, true, true, true, false, false, false, false, false, false, false, false, false] rfl rfl (any_of HT_.out (by kernel_rfl)) (fun _ _ _ h => h) (Or.inl ⟨by rfl, ?_⟩) ?_ ?_
                                      rotate_left
                                      · intro w'
                                        go_simp
                                        with_reducible rfl
                                      rotate_left
                                      · simp only [Act.put, List.setIfInBounds_toArray, List.set_cons_zero, List.set_cons_succ, i64_w, i32_w]
                                        rfl
                                      refine pure_ (i := 12) (N := some 98) (v := ?_) (a' := ?_) #[true, true, true, true, true, true, true, true, true, true, true, true, true, false, false, false, false, false, false, false, false] rfl rfl (any_of HT_.out (by kernel_rfl)) (fun _ _ _ h => h) (Or.inl ⟨by rfl, ?_⟩) ?_ ?_
                                      rotate_left
                                      · intro w'
                                        go_simp
                                        with_reducible rfl
                                      rotate_left
                                      · simp only [Act.put, List.setIfInBounds_toArray, List.set_cons_zero, List.set_cons_succ, i64_w, i32_w]
                                        rfl
                                      refine pure_ (i := 13) (N := some 99) (v := ?_) (a' := ?_) #[true, true, true, true, true, true, true, true, true, true, true, true, true, true, false, false, false, false, false, false, false] rfl rfl (any_of HT_.out (by kernel_rfl)) (fun _ _ _ h => h) (Or.inl ⟨by rfl, ?_⟩) ?_ ?_
                                      rotate_left
                                      · intro w'
                                        go_simp
                                        with_reducible rfl
                                      rotate_left
                                      · simp only [Act.put, List.setIfInBounds_toArray, List.set_cons_zero, List.set_cons_succ, i64_w, i32_w]
                                        rfl
                                      refine pure_ (i := 14) (N := some 100) (v := ?_) (a' := ?_) #[true, true, true, true, true, true, true, true, true, true, true, true, true, true, true, false, false, false, false, false, false] rfl rfl (any_of HT_.out (by kernel_rfl)) (fun _ _ _ h => h) (Or.inl ⟨by rfl, ?_⟩) ?_ ?_
                                      rotate_left
                                      · intro w'
                                        go_simp
                                        with_reducible rfl
                                      rotate_left
                                      · simp only [Act.put, List.setIfInBounds_toArray, List.set_cons_zero, List.set_cons_succ, i64_w, i32_w]
                                        rfl
                                      refine pure_ (i := 15) (N := some 101) (v := ?_) (a' := ?_) #[true, true, true, true, true, true, true, true, true, true, true, true, true, true, true, true, false, false, false, false, false] rfl rfl (any_of HT_.out (by kernel_rfl)) (fun _ _ _ h => h) (Or.inl ⟨by rfl, ?_⟩) ?_ ?_
                                      rotate_left
                                      · intro w'
                                        go_simp
                                        with_reducible rfl
                                      rotate_left
                                      · simp only [Act.put, List.setIfInBounds_toArray, List.set_cons_zero, List.set_cons_succ, i64_w, i32_w]
                                        rfl
                                      refine pure_ (i := 16) (N := some 102) (v := ?_) (a' := ?_) #[true, true, true, true, true, true, true, true, true, true, true, true, true, true, true, true, true, false, false, false, false] rfl rfl (any_of HT_.out (by kernel_rfl)) (fun _ _ _ h => h) (Or.inl ⟨by rfl, ?_⟩) ?_ ?_
                                      rotate_left
                                      · intro w'
                                        go_simp
                                        with_reducible rfl
                                      rotate_left
                                      · simp only [Act.put, List.setIfInBounds_toArray, List.set_cons_zero, List.set_cons_succ, i64_w, i32_w]
                                        rfl
                                      refine take_ (i := 17) (N := some 103) (v := ?_) (a' := ?_) #[true, true, true, true, true, true, true, true, true, true, true, true, true, true, true, true, true, true, false, false, false] rfl rfl (take_ofW HT_.out HW_.out (by kernel_rfl)) (fun _ _ _ h => h) (Or.inl ⟨by rfl, ?_⟩) hHeld ?_ ?_
                                      rotate_left
                                      · rintro w' ⟨s0, s1, s2, s3, s4, s5, s6, s7, s8, s9, s10, s11, s12, s13, s14⟩
                                        go_simp
                                        with_reducible rfl
                                      rotate_left
                                      · simp only [Act.put, List.setIfInBounds_toArray, List.set_cons_zero, List.set_cons_succ, i64_w, i32_w]
                                        rfl
                                      refine one_ (i := 18) (N := some 104) #[true, true, true, true, true, true, true, true, true, true, true, true, true, true, true, true, true, true, true, false, false] rfl rfl (one_of HT_.out (by kernel_rfl)) (by decide) (fun K hK => ?_)
                                      refine goes_ Tryd.func46 (by kernel_rfl) rfl #[.slice (some ad238) l0.length c0, .int .u32 ((rd_T34 l0 t234).f0)] (by rfl) rfl rfl (by (try simp only [List.map_toArray, List.map_cons, List.map_nil]); first | done | rfl | (simp only [List.length_drop, List.length_take]; rfl)) ?_
                                      with_reducible refine (r10_Kids.calls kj7 _ _ l0 ((rd_T34 l0 t234).f0) t249 _ ?side1 ?side2 A47.out).mono ?_
                                      (case side1 => repeat (first | exact (Kd.C_below HR0.out HB.out) | (with_reducible refine Kd.C_alloc ?_ _) | (with_reducible refine Kd.C_drewN ?_ _) | (with_reducible refine Kd.C_drew ?_)))
                                      (case side2 => exact HC0.out)
                                      rintro e w' ⟨rfl, ⟨nd, rfl⟩⟩
                                      refine ⟨_, rfl, ?_⟩
                                      refine hK.out _ _ ⟨((HB.out.cell (World.block_lt_of_cell? w _ hw246_0)).trans hw246_0), ((HB.out.cell (World.block_lt_of_cell? w _ hw246_1)).trans hw246_1), ((HB.out.cell (World.block_lt_of_cell? w _ hw246_2)).trans hw246_2), ((HB.out.cell (World.block_lt_of_cell? w _ hw246_3)).trans hw246_3), ((HB.out.cell (World.block_lt_of_cell? w _ hw246_4)).trans hw246_4), ((HB.out.cell (World.block_lt_of_cell? w _ hw247_0)).trans hw247_0), ((HB.out.cell (World.block_lt_of_cell? w _ hw247_1)).trans hw247_1), ((HB.out.cell (World.block_lt_of_cell? w _ hw247_2)).trans hw247_2), ((HB.out.cell (World.block_lt_of_cell? w _ hw247_3)).trans hw247_3), ((HB.out.cell (World.block_lt_of_cell? w _ hw247_4)).trans hw247_4), ((HB.out.cell (World.block_lt_of_cell? w _ hw248_0)).trans hw248_0), ((HB.out.cell (World.block_lt_of_cell? w _ hw248_1)).trans hw248_1), ((HB.out.cell (World.block_lt_of_cell? w _ hw248_2)).trans hw248_2), ((HB.out.cell (World.block_lt_of_cell? w _ hw248_3)).trans hw248_3), ((HB.out.cell (World.block_lt_of_cell? w _ hw248_4)).trans hw248_4)⟩ (fun hHeld => ?_)
                                      clear hK K
                                      refine norm_ (a' := ?_) ?_ ?_
                                      rotate_left
                                      · show Act.put _ (some 104) _ = _
                                        simp only [Act.put, List.setIfInBounds_toArray, List.set_cons_zero, List.set_cons_succ, i64_w, i32_w]
                                        rfl
                                      refine pure_ (i := 19) (N := some 105) (v := ?_) (a' := ?_) #[true, true, true, true, true, true, true, true, true, true, true, true, true, true, true, true, true, true, true, true, false] rfl rfl (any_of HT_.out (by kernel_rfl)) (fun _ _ _ h => h) (Or.inl ⟨by rfl, ?_⟩) ?_ ?_
                                      rotate_left
                                      · intro w'
                                        go_simp
                                        with_reducible rfl
                                      rotate_left
                                      · simp only [Act.put, List.setIfInBounds_toArray, List.set_cons_zero, List.set_cons_succ, i64_w, i32_w]
                                        rfl
                                      refine pure_ (i := 20) (N := some 106) (v := ?_) (a' := ?_) #[true, true, true, true, true, true, true, true, true, true, true, true, true, true, true, true, true, true, true, true, true] rfl rfl (any_of HT_.out (by kernel_rfl)) (fun _ _ _ h => h) (Or.inl ⟨by rfl, ?_⟩) ?_ ?_
                                      rotate_left
                                      · intro w'
                                        go_simp
                                        with_reducible rfl
                                      rotate_left
                                      · simp only [Act.put, List.setIfInBounds_toArray, List.set_cons_zero, List.set_cons_succ, i64_w, i32_w]
                                        rfl
                                      refine done_ (done_of HT_.out (by kernel_rfl)) ?_
                                      try go_wp2
                                      go_meet
                                      case rel => exact ⟨_, ((t249 == 12)), (by first | rfl | (simp; done) | (simp [*]; done)), H', ⟨by have := HJ7.out; first | omega | exact Nat.le_refl _⟩, ⟨by repeat (first | (with_reducible first | exact HB.out | apply below_alloc | apply pw_below_drewN | apply below_drew1) | exact HB.out)⟩⟩
                                  · rw [if_neg c44] at H
                                    exact absurd H (by simp)
                                · rw [if_neg c43] at H
                                  exact absurd H (by simp)
                              case rest =>
                                clear HC40
                                try clear c1
                                try clear c2
                                try clear p2
                                try clear q2
                                try clear hx2
                                try clear c3
                                try clear c4
                                try clear p6
                                try clear c13
                                try clear c15
                                try clear c15b0
                                try clear c15b1
                                try clear c16
                                try clear c16b0
                                try clear c16b1
                                try clear c19
                                try clear c19b0
                                try clear c19b1
                                try clear c21
                                try clear p23
                                try clear q23
                                try clear hx23
                                try clear p24
                                try clear q24
                                try clear hx24
                                try clear c25
                                try clear c25b0
                                try clear c26
                                try clear c26b0
                                try clear c27
                                try clear c27b0
                                try clear c28
                                try clear c28b0
                                try clear c30
                                try clear c30b0
                                try clear c30b1
                                try clear c31
                                try clear c37
                                try clear c37b0
                                try clear c42
                                try clear c43
                                try clear c43b0
                                try clear c44
                                try clear c44b0
                                try clear c45
                                try clear c45b0
                                try clear c45b1
                                try clear c46
                                try clear hx237_0
                                try clear hx238_0
                                try clear hx238_1
                                try clear hx238_2
                                try clear hx238_3
                                try clear hx238_4
                                try clear hx246_0
                                try clear hx246_1
                                try clear hx246_2
                                try clear hx246_3
                                try clear hx246_4
                                try clear hx247_0
                                try clear hx247_1
                                try clear hx247_2
                                try clear hx247_3
                                try clear hx247_4
                                try clear hx248_0
                                try clear hx248_1
                                try clear hx248_2
                                try clear hx248_3
                                try clear hx248_4
                                try clear p237
                                try clear p238
                                try clear p246
                                try clear p247
                                try clear p248
                                try clear q237
                                try clear q238
                                try clear q246
                                try clear q247
                                try clear q248
                                obtain ⟨kq, x106_39, rfl, HA, HJ39, HB⟩ := hcut
                                cases kq with
                                | zero => exact absurd HA.out (by simp [r10_Rename.j1])
                                | succ kj39 =>
                                  have H := HA.out
                                  clear HA
                                  simp only [r10_Rename.j1] at H
                                  by_cases c49 : x106_39 = true
                                  · subst c49
                                    have H1 : (some (([] : List (S34)), 16)) = some (r1, r2) := by rw [if_pos rfl] at H; exact H
                                    clear H
                                    have H := H1
                                    clear H1
                                    simp only [Option.some.injEq, Prod.mk.injEq] at H
                                    obtain ⟨rfl, rfl⟩ := H
                                    go_wp2
                                    go_ret2
                                    exact ⟨_, by first | rfl | (simp [errW_none, errW_some] <;> rfl) | (simp only [← hji24]; first | rfl | (simp [errW_none, errW_some] <;> rfl)) | (simp [*, errW_none, errW_some] <;> rfl), by first | exact Kd.R_nil _ _ _ _ _ | exact Kd.N_nil _ _ _ _ _ | exact Kd.V_nil _ _ _ _ _ | exact Kd.Q_nil _ _ _ _ _ | exact Kd.S_nil _ _ _ _ _, by repeat (first | (with_reducible first | exact HB.out | apply below_alloc | apply pw_below_drewN | apply below_drew1) | exact HB.out)⟩
                                  · replace c49 := Bool.eq_false_iff.mpr c49
                                    subst c49
                                    have H1 : (if 0 ≤ t232 then (if t232 < (l0.length : Int) then (if 0 ≤ t234 then (if t234 < (l0.length : Int) then ((r10_Without.f l0 t232).bind fun t253 => ((r10_With.f kj39 t253 ((rd_T34 l0 t232).f0) ((rd_T34 l0 t234).f0) (rdOf ByteArray.empty t228 (ji24)) ((rd_T34 l0 t232).f3) ((rd_T34 l0 t232).f4)).bind fun t256 => (r10_Rename.l0 kj39 t256 0))) else (none)) else (none)) else (none)) else (none)) = some (r1, r2) := by rw [if_neg (show ¬ (false = true) by decide)] at H; exact H
                                    clear H
                                    have H := H1
                                    clear H1
                                    by_cases c50 : 0 ≤ t232
                                    · rw [if_pos c50] at H
                                      have c50b0 : decide (0 ≤ t232) = true := decide_eq_true c50
                                      clear c50
                                      by_cases c51 : t232 < (l0.length : Int)
                                      · rw [if_pos c51] at H
                                        have c51b0 : decide (t232 < (l0.length : Int)) = true := decide_eq_true c51
                                        clear c51
                                        by_cases c52 : 0 ≤ t234
                                        · rw [if_pos c52] at H
                                          have c52b0 : decide (0 ≤ t234) = true := decide_eq_true c52
                                          clear c52
                                          by_cases c53 : t234 < (l0.length : Int)
                                          · rw [if_pos c53] at H
                                            have c53b0 : decide (t234 < (l0.length : Int)) = true := decide_eq_true c53
                                            clear c53
                                            replace H := Option.bind_eq_some_iff.mp H
                                            obtain ⟨t253, A540, H⟩ := H
                                            replace H : ((r10_With.f kj39 t253 ((rd_T34 l0 t232).f0) ((rd_T34 l0 t234).f0) (rdOf ByteArray.empty t228 (ji24)) ((rd_T34 l0 t232).f3) ((rd_T34 l0 t232).f4)).bind fun t256 => (r10_Rename.l0 kj39 t256 0)) = some (r1, r2) := H
                                            have A54 := Aside0.mk A540
                                            clear A540
                                            replace H := Option.bind_eq_some_iff.mp H
                                            obtain ⟨t256, A550, H⟩ := H
                                            replace H : (r10_Rename.l0 kj39 t256 0) = some (r1, r2) := H
                                            have A55 := Aside0.mk A550
                                            clear A550
                                            have H' := Aside0.mk H
                                            clear H
                                            have p250 : 0 ≤ (t232 : Int) := of_decide_eq_true (by first | (with_reducible assumption) | assumption)
                                            have q250 : t232 < (l0.length : Int) := of_decide_eq_true (by first | (with_reducible assumption) | assumption)
                                            obtain ⟨ad250, e250, hx250_0, hx250_1, hx250_2, hx250_3, hx250_4⟩ := at_T34 HR0.out t232 p250 q250
                                            obtain rfl : ad238 = ad250 := (by injection e250)
                                            replace hx250_0 := (HB.out.cell (World.block_lt_of_cell? w _ hx250_0)).trans hx250_0
                                            replace hx250_1 := (HB.out.cell (World.block_lt_of_cell? w _ hx250_1)).trans hx250_1
                                            replace hx250_2 := (HB.out.cell (World.block_lt_of_cell? w _ hx250_2)).trans hx250_2
                                            replace hx250_3 := (HB.out.cell (World.block_lt_of_cell? w _ hx250_3)).trans hx250_3
                                            replace hx250_4 := (HB.out.cell (World.block_lt_of_cell? w _ hx250_4)).trans hx250_4
                                            replace p250 := eq_true p250
                                            replace q250 := eq_true q250
                                            try go_wp2_with (first | ((with_reducible refine gate_dst (N := 18) rfl ?_); refine box_event ?hg (N := 18) ?hd (cs := #[.int .u32 0, .int .u32 0, .string (⟨#[]⟩ : ByteArray), .bool false, .int .u32 0]) (t := 34) ?hr ?_; (case hd => rfl); (case hg => rfl); (case hr => first | (go_simp; done) | (go_simp; rfl)); intro gb251 hg w56 hbox hb; have n0_ := Aside0.mk (below_step (by repeat (first | (with_reducible first | exact HB.out | apply below_alloc | apply pw_below_drewN | apply below_drew1) | exact HB.out)) hb); have n1_ := Aside0.mk (hbox); have n2_ := Aside0.mk ((by rw [hg]; exact (below_size (by repeat (first | (with_reducible first | exact HB.out | apply below_alloc | apply pw_below_drewN | apply below_drew1) | exact HB.out))) : w.heap.size ≤ gb251)); have n3_ := Aside0.mk ((by rw [hg]; exact (below_size (by repeat (first | (with_reducible first | exact HB.out | apply below_alloc | apply pw_below_drewN | apply below_drew1) | exact HB.out))) : w.heap.size ≤ gb251)); clear HB; have HB := n0_; have BK251 := n1_; have GW251 := n2_; have GE251 := n3_; clear n0_ n1_ n2_ n3_; clear hb hbox hg; have hcz57_0 : w56.cell? ⟨gb251, 0, none⟩ = some (.int .u32 0) := (blk_cell BK251.out 0).trans rfl; have hcz57_1 : w56.cell? ⟨gb251, 1, none⟩ = some (.int .u32 0) := (blk_cell BK251.out 1).trans rfl; have hcz57_2 : w56.cell? ⟨gb251, 2, none⟩ = some (.string (⟨#[]⟩ : ByteArray)) := (blk_cell BK251.out 2).trans rfl; have hcz57_3 : w56.cell? ⟨gb251, 3, none⟩ = some (.bool false) := (blk_cell BK251.out 3).trans rfl; have hcz57_4 : w56.cell? ⟨gb251, 4, none⟩ = some (.int .u32 0) := (blk_cell BK251.out 4).trans rfl; have hfz57_0 := blk_frozen BK251.out 0; have hfz57_1 := blk_frozen BK251.out 1; have hfz57_2 := blk_frozen BK251.out 2; have hfz57_3 := blk_frozen BK251.out 3; have hfz57_4 := blk_frozen BK251.out 4; have p252 : 0 ≤ (t234 : Int) := of_decide_eq_true (by first | (with_reducible assumption) | assumption); have q252 : t234 < (l0.length : Int) := of_decide_eq_true (by first | (with_reducible assumption) | assumption); obtain ⟨ad252, e252, hx252_0, hx252_1, hx252_2, hx252_3, hx252_4⟩ := at_T34 HR0.out t234 p252 q252; obtain rfl : ad238 = ad252 := (by injection e252); have hn252_0 : ad238.block ≠ gb251 := Nat.ne_of_lt (Nat.lt_of_lt_of_le (by have := World.block_lt_of_cell? _ _ hx252_0; first | rwa [add_block] at this | exact this) GW251.out); have hn252_1 : ad238.block ≠ gb251 := Nat.ne_of_lt (Nat.lt_of_lt_of_le (by have := World.block_lt_of_cell? _ _ hx252_0; first | rwa [add_block] at this | exact this) GW251.out); have hn252_2 : ad238.block ≠ gb251 := Nat.ne_of_lt (Nat.lt_of_lt_of_le (by have := World.block_lt_of_cell? _ _ hx252_0; first | rwa [add_block] at this | exact this) GW251.out); have hn252_3 : ad238.block ≠ gb251 := Nat.ne_of_lt (Nat.lt_of_lt_of_le (by have := World.block_lt_of_cell? _ _ hx252_0; first | rwa [add_block] at this | exact this) GW251.out); have hn252_4 : ad238.block ≠ gb251 := Nat.ne_of_lt (Nat.lt_of_lt_of_le (by have := World.block_lt_of_cell? _ _ hx252_0; first | rwa [add_block] at this | exact this) GW251.out); replace hx252_0 := (HB.out.cell (World.block_lt_of_cell? w _ hx252_0)).trans hx252_0; replace hx252_1 := (HB.out.cell (World.block_lt_of_cell? w _ hx252_1)).trans hx252_1; replace hx252_2 := (HB.out.cell (World.block_lt_of_cell? w _ hx252_2)).trans hx252_2; replace hx252_3 := (HB.out.cell (World.block_lt_of_cell? w _ hx252_3)).trans hx252_3; replace hx252_4 := (HB.out.cell (World.block_lt_of_cell? w _ hx252_4)).trans hx252_4; replace hx252_0 := (cell_far (p := ⟨gb251, 0, none⟩) (by first | (rw [add_block]; exact hn252_0) | (show (Addr.add _ _).block ≠ _; rw [add_block]; exact hn252_0) | exact hn252_0) (.int .u32 ((rd_T34 l0 t232).f0))).trans hx252_0; replace hx252_1 := (cell_far (p := ⟨gb251, 0, none⟩) (by first | (rw [add_block]; exact hn252_0) | (show (Addr.add _ _).block ≠ _; rw [add_block]; exact hn252_0) | exact hn252_0) (.int .u32 ((rd_T34 l0 t232).f0))).trans hx252_1; replace hx252_2 := (cell_far (p := ⟨gb251, 0, none⟩) (by first | (rw [add_block]; exact hn252_0) | (show (Addr.add _ _).block ≠ _; rw [add_block]; exact hn252_0) | exact hn252_0) (.int .u32 ((rd_T34 l0 t232).f0))).trans hx252_2; replace hx252_3 := (cell_far (p := ⟨gb251, 0, none⟩) (by first | (rw [add_block]; exact hn252_0) | (show (Addr.add _ _).block ≠ _; rw [add_block]; exact hn252_0) | exact hn252_0) (.int .u32 ((rd_T34 l0 t232).f0))).trans hx252_3; replace hx252_4 := (cell_far (p := ⟨gb251, 0, none⟩) (by first | (rw [add_block]; exact hn252_0) | (show (Addr.add _ _).block ≠ _; rw [add_block]; exact hn252_0) | exact hn252_0) (.int .u32 ((rd_T34 l0 t232).f0))).trans hx252_4; replace hx252_0 := (cell_far (p := ⟨gb251, 1, none⟩) (by first | (rw [add_block]; exact hn252_1) | (show (Addr.add _ _).block ≠ _; rw [add_block]; exact hn252_1) | exact hn252_1) (.int .u32 ((rd_T34 l0 t232).f1))).trans hx252_0; replace hx252_1 := (cell_far (p := ⟨gb251, 1, none⟩) (by first | (rw [add_block]; exact hn252_1) | (show (Addr.add _ _).block ≠ _; rw [add_block]; exact hn252_1) | exact hn252_1) (.int .u32 ((rd_T34 l0 t232).f1))).trans hx252_1; replace hx252_2 := (cell_far (p := ⟨gb251, 1, none⟩) (by first | (rw [add_block]; exact hn252_1) | (show (Addr.add _ _).block ≠ _; rw [add_block]; exact hn252_1) | exact hn252_1) (.int .u32 ((rd_T34 l0 t232).f1))).trans hx252_2; replace hx252_3 := (cell_far (p := ⟨gb251, 1, none⟩) (by first | (rw [add_block]; exact hn252_1) | (show (Addr.add _ _).block ≠ _; rw [add_block]; exact hn252_1) | exact hn252_1) (.int .u32 ((rd_T34 l0 t232).f1))).trans hx252_3; replace hx252_4 := (cell_far (p := ⟨gb251, 1, none⟩) (by first | (rw [add_block]; exact hn252_1) | (show (Addr.add _ _).block ≠ _; rw [add_block]; exact hn252_1) | exact hn252_1) (.int .u32 ((rd_T34 l0 t232).f1))).trans hx252_4; replace hx252_0 := (cell_far (p := ⟨gb251, 2, none⟩) (by first | (rw [add_block]; exact hn252_2) | (show (Addr.add _ _).block ≠ _; rw [add_block]; exact hn252_2) | exact hn252_2) (.string ((rd_T34 l0 t232).f2))).trans hx252_0; replace hx252_1 := (cell_far (p := ⟨gb251, 2, none⟩) (by first | (rw [add_block]; exact hn252_2) | (show (Addr.add _ _).block ≠ _; rw [add_block]; exact hn252_2) | exact hn252_2) (.string ((rd_T34 l0 t232).f2))).trans hx252_1; replace hx252_2 := (cell_far (p := ⟨gb251, 2, none⟩) (by first | (rw [add_block]; exact hn252_2) | (show (Addr.add _ _).block ≠ _; rw [add_block]; exact hn252_2) | exact hn252_2) (.string ((rd_T34 l0 t232).f2))).trans hx252_2; replace hx252_3 := (cell_far (p := ⟨gb251, 2, none⟩) (by first | (rw [add_block]; exact hn252_2) | (show (Addr.add _ _).block ≠ _; rw [add_block]; exact hn252_2) | exact hn252_2) (.string ((rd_T34 l0 t232).f2))).trans hx252_3; replace hx252_4 := (cell_far (p := ⟨gb251, 2, none⟩) (by first | (rw [add_block]; exact hn252_2) | (show (Addr.add _ _).block ≠ _; rw [add_block]; exact hn252_2) | exact hn252_2) (.string ((rd_T34 l0 t232).f2))).trans hx252_4; replace hx252_0 := (cell_far (p := ⟨gb251, 3, none⟩) (by first | (rw [add_block]; exact hn252_3) | (show (Addr.add _ _).block ≠ _; rw [add_block]; exact hn252_3) | exact hn252_3) (.bool ((rd_T34 l0 t232).f3))).trans hx252_0; replace hx252_1 := (cell_far (p := ⟨gb251, 3, none⟩) (by first | (rw [add_block]; exact hn252_3) | (show (Addr.add _ _).block ≠ _; rw [add_block]; exact hn252_3) | exact hn252_3) (.bool ((rd_T34 l0 t232).f3))).trans hx252_1; replace hx252_2 := (cell_far (p := ⟨gb251, 3, none⟩) (by first | (rw [add_block]; exact hn252_3) | (show (Addr.add _ _).block ≠ _; rw [add_block]; exact hn252_3) | exact hn252_3) (.bool ((rd_T34 l0 t232).f3))).trans hx252_2; replace hx252_3 := (cell_far (p := ⟨gb251, 3, none⟩) (by first | (rw [add_block]; exact hn252_3) | (show (Addr.add _ _).block ≠ _; rw [add_block]; exact hn252_3) | exact hn252_3) (.bool ((rd_T34 l0 t232).f3))).trans hx252_3; replace hx252_4 := (cell_far (p := ⟨gb251, 3, none⟩) (by first | (rw [add_block]; exact hn252_3) | (show (Addr.add _ _).block ≠ _; rw [add_block]; exact hn252_3) | exact hn252_3) (.bool ((rd_T34 l0 t232).f3))).trans hx252_4; replace hx252_0 := (cell_far (p := ⟨gb251, 4, none⟩) (by first | (rw [add_block]; exact hn252_4) | (show (Addr.add _ _).block ≠ _; rw [add_block]; exact hn252_4) | exact hn252_4) (.int .u32 ((rd_T34 l0 t232).f4))).trans hx252_0; replace hx252_1 := (cell_far (p := ⟨gb251, 4, none⟩) (by first | (rw [add_block]; exact hn252_4) | (show (Addr.add _ _).block ≠ _; rw [add_block]; exact hn252_4) | exact hn252_4) (.int .u32 ((rd_T34 l0 t232).f4))).trans hx252_1; replace hx252_2 := (cell_far (p := ⟨gb251, 4, none⟩) (by first | (rw [add_block]; exact hn252_4) | (show (Addr.add _ _).block ≠ _; rw [add_block]; exact hn252_4) | exact hn252_4) (.int .u32 ((rd_T34 l0 t232).f4))).trans hx252_2; replace hx252_3 := (cell_far (p := ⟨gb251, 4, none⟩) (by first | (rw [add_block]; exact hn252_4) | (show (Addr.add _ _).block ≠ _; rw [add_block]; exact hn252_4) | exact hn252_4) (.int .u32 ((rd_T34 l0 t232).f4))).trans hx252_3; replace hx252_4 := (cell_far (p := ⟨gb251, 4, none⟩) (by first | (rw [add_block]; exact hn252_4) | (show (Addr.add _ _).block ≠ _; rw [add_block]; exact hn252_4) | exact hn252_4) (.int .u32 ((rd_T34 l0 t232).f4))).trans hx252_4; clear hn252_0; clear hn252_1; clear hn252_2; clear hn252_3; clear hn252_4; replace p252 := eq_true p252; replace q252 := eq_true q252))
                                            have n0_ : Aside0 ((((((((w56.setCell ⟨gb251, 0, none⟩ (.int .u32 ((rd_T34 l0 t232).f0))).setCell ⟨gb251, 1, none⟩ (.int .u32 ((rd_T34 l0 t232).f1))).setCell ⟨gb251, 2, none⟩ (.string ((rd_T34 l0 t232).f2))).setCell ⟨gb251, 3, none⟩ (.bool ((rd_T34 l0 t232).f3))).setCell ⟨gb251, 4, none⟩ (.int .u32 ((rd_T34 l0 t232).f4))).setCell ⟨gb251, 1, none⟩ (.int .u32 ((rd_T34 l0 t234).f0))).setCell ⟨gb251, 2, none⟩ (.string (rdOf ByteArray.empty t228 (ji24)))).heap[gb251]? = some (.cells #[.int .u32 ((rd_T34 l0 t232).f0), .int .u32 ((rd_T34 l0 t234).f0), .string (rdOf ByteArray.empty t228 (ji24)), .bool ((rd_T34 l0 t232).f3), .int .u32 ((rd_T34 l0 t232).f4)] 34 (0, 0))) := ⟨by (with_reducible repeat (first | refine blk_drewN ?_ _ | refine blk_drew ?_ | refine blk_alloc ?_ _)); refine blk_put (cs := #[.int .u32 ((rd_T34 l0 t232).f0), .int .u32 ((rd_T34 l0 t234).f0), .string ((rd_T34 l0 t232).f2), .bool ((rd_T34 l0 t232).f3), .int .u32 ((rd_T34 l0 t232).f4)]) ?_ 2 _ rfl; (with_reducible repeat (first | refine blk_drewN ?_ _ | refine blk_drew ?_ | refine blk_alloc ?_ _)); refine blk_put (cs := #[.int .u32 ((rd_T34 l0 t232).f0), .int .u32 ((rd_T34 l0 t232).f1), .string ((rd_T34 l0 t232).f2), .bool ((rd_T34 l0 t232).f3), .int .u32 ((rd_T34 l0 t232).f4)]) ?_ 1 _ rfl; (with_reducible repeat (first | refine blk_drewN ?_ _ | refine blk_drew ?_ | refine blk_alloc ?_ _)); refine blk_put (cs := #[.int .u32 ((rd_T34 l0 t232).f0), .int .u32 ((rd_T34 l0 t232).f1), .string ((rd_T34 l0 t232).f2), .bool ((rd_T34 l0 t232).f3), .int .u32 0]) ?_ 4 _ rfl; (with_reducible repeat (first | refine blk_drewN ?_ _ | refine blk_drew ?_ | refine blk_alloc ?_ _)); refine blk_put (cs := #[.int .u32 ((rd_T34 l0 t232).f0), .int .u32 ((rd_T34 l0 t232).f1), .string ((rd_T34 l0 t232).f2), .bool false, .int .u32 0]) ?_ 3 _ rfl; (with_reducible repeat (first | refine blk_drewN ?_ _ | refine blk_drew ?_ | refine blk_alloc ?_ _)); refine blk_put (cs := #[.int .u32 ((rd_T34 l0 t232).f0), .int .u32 ((rd_T34 l0 t232).f1), .string (⟨#[]⟩ : ByteArray), .bool false, .int .u32 0]) ?_ 2 _ rfl; (with_reducible repeat (first | refine blk_drewN ?_ _ | refine blk_drew ?_ | refine blk_alloc ?_ _)); refine blk_put (cs := #[.int .u32 ((rd_T34 l0 t232).f0), .int .u32 0, .string (⟨#[]⟩ : ByteArray), .bool false, .int .u32 0]) ?_ 1 _ rfl; (with_reducible repeat (first | refine blk_drewN ?_ _ | refine blk_drew ?_ | refine blk_alloc ?_ _)); refine blk_put (cs := #[.int .u32 0, .int .u32 0, .string (⟨#[]⟩ : ByteArray), .bool false, .int .u32 0]) ?_ 0 _ rfl; (with_reducible repeat (first | refine blk_drewN ?_ _ | refine blk_drew ?_ | refine blk_alloc ?_ _)); exact BK251.out⟩
                                            have n1_ : Aside0 (Below w.heap.size w (((((((w56.setCell ⟨gb251, 0, none⟩ (.int .u32 ((rd_T34 l0 t232).f0))).setCell ⟨gb251, 1, none⟩ (.int .u32 ((rd_T34 l0 t232).f1))).setCell ⟨gb251, 2, none⟩ (.string ((rd_T34 l0 t232).f2))).setCell ⟨gb251, 3, none⟩ (.bool ((rd_T34 l0 t232).f3))).setCell ⟨gb251, 4, none⟩ (.int .u32 ((rd_T34 l0 t232).f4))).setCell ⟨gb251, 1, none⟩ (.int .u32 ((rd_T34 l0 t234).f0))).setCell ⟨gb251, 2, none⟩ (.string (rdOf ByteArray.empty t228 (ji24))))) := ⟨by repeat (first | (with_reducible first | exact HB.out | apply below_alloc | apply pw_below_drewN | apply below_drew1 | refine below_set ?_ GE251.out) | exact HB.out)⟩
                                            (try clear BK251)
                                            (try clear HB)
                                            generalize (((((((w56.setCell ⟨gb251, 0, none⟩ (.int .u32 ((rd_T34 l0 t232).f0))).setCell ⟨gb251, 1, none⟩ (.int .u32 ((rd_T34 l0 t232).f1))).setCell ⟨gb251, 2, none⟩ (.string ((rd_T34 l0 t232).f2))).setCell ⟨gb251, 3, none⟩ (.bool ((rd_T34 l0 t232).f3))).setCell ⟨gb251, 4, none⟩ (.int .u32 ((rd_T34 l0 t232).f4))).setCell ⟨gb251, 1, none⟩ (.int .u32 ((rd_T34 l0 t234).f0))).setCell ⟨gb251, 2, none⟩ (.string (rdOf ByteArray.empty t228 (ji24)))) = w58 at n0_ n1_ ⊢
                                            have BK251 := n0_
                                            have HB := n1_
                                            clear n0_ n1_
                                            have n0_ := Aside0.mk (blk_drew BK251.out)
                                            have n1_ := Aside0.mk (below_drew1 HB.out)
                                            clear BK251
                                            clear HB
                                            have BK251 := n0_
                                            have HB := n1_
                                            clear n0_ n1_
                                            refine start_ (n := 6) (S := fun w' => w'.cell? ⟨gb251, 0, none⟩ = some (.int .u32 ((rd_T34 l0 t232).f0)) ∧ w'.cell? ⟨gb251, 1, none⟩ = some (.int .u32 ((rd_T34 l0 t234).f0)) ∧ w'.cell? ⟨gb251, 2, none⟩ = some (.string (rdOf ByteArray.empty t228 (ji24))) ∧ w'.cell? ⟨gb251, 3, none⟩ = some (.bool ((rd_T34 l0 t232).f3)) ∧ w'.cell? ⟨gb251, 4, none⟩ = some (.int .u32 ((rd_T34 l0 t232).f4))) (ds := []) #[false, false, false, false, false, false] (by kernel_rfl) rfl rfl ⟨(blk_cell BK251.out 0).trans rfl, (blk_cell BK251.out 1).trans rfl, (blk_cell BK251.out 2).trans rfl, (blk_cell BK251.out 3).trans rfl, (blk_cell BK251.out 4).trans rfl⟩ (fun hHeld => ?_)
                                            generalize w58.drew = w59 at BK251 HB hHeld ⊢
                                            refine pure_ (i := 0) (N := some 119) (v := ?_) (a' := ?_) #[true, false, false, false, false, false] rfl rfl (by kernel_rfl) (fun _ _ _ h => h) (Or.inl ⟨by rfl, ?_⟩) ?_ ?_
                                            rotate_left
                                            · intro w'
                                              go_simp
                                              with_reducible rfl
                                            rotate_left
                                            · simp only [Act.put, List.setIfInBounds_toArray, List.set_cons_zero, List.set_cons_succ, i64_w, i32_w]
                                              rfl
                                            refine pure_ (i := 1) (N := some 120) (v := ?_) (a' := ?_) #[true, true, false, false, false, false] rfl rfl (by kernel_rfl) (fun _ _ _ h => h) (Or.inl ⟨by rfl, ?_⟩) ?_ ?_
                                            rotate_left
                                            · intro w'
                                              go_simp
                                              with_reducible rfl
                                            rotate_left
                                            · simp only [Act.put, List.setIfInBounds_toArray, List.set_cons_zero, List.set_cons_succ, i64_w, i32_w]
                                              rfl
                                            refine take_ (i := 3) (N := some 122) (v := ?_) (a' := ?_) #[true, true, false, true, false, false] rfl rfl (by kernel_rfl) (fun _ _ _ h => h) (Or.inl ⟨by rfl, ?_⟩) hHeld ?_ ?_
                                            rotate_left
                                            · rintro w' ⟨s0, s1, s2, s3, s4⟩
                                              go_simp
                                              with_reducible rfl
                                            rotate_left
                                            · simp only [Act.put, List.setIfInBounds_toArray, List.set_cons_zero, List.set_cons_succ, i64_w, i32_w]
                                              rfl
                                            refine one_ (i := 2) (N := some 121) #[true, true, true, true, false, false] rfl rfl (by kernel_rfl) (by decide) (fun K hK => ?_)
                                            refine goes_ Tryd.func48 (by kernel_rfl) rfl #[.slice (some ad238) l0.length c0, .int .i64 t232] (by rfl) rfl rfl (by (try simp only [List.map_toArray, List.map_cons, List.map_nil]); first | done | rfl | (simp only [List.length_drop, List.length_take]; rfl)) ?_
                                            with_reducible refine (r10_Without.calls _ _ l0 t232 t253 _ ?side1 ?side2 A54.out).mono ?_
                                            (case side1 => repeat (first | exact (Kd.C_below HR0.out HB.out) | (with_reducible refine Kd.C_alloc ?_ _) | (with_reducible refine Kd.C_drewN ?_ _) | (with_reducible refine Kd.C_drew ?_)))
                                            (case side2 => exact HC0.out)
                                            rintro e w60 ⟨v254, rfl, ho0, hb⟩
                                            refine ⟨_, rfl, ?_⟩
                                            have n0_ := Aside0.mk (Kd.R_lower (Kd.R_newB ho0 (g := gb251) (o := .cells #[.int .u32 ((rd_T34 l0 t232).f0), .int .u32 ((rd_T34 l0 t234).f0), .string (rdOf ByteArray.empty t228 (ji24)), .bool ((rd_T34 l0 t232).f3), .int .u32 ((rd_T34 l0 t232).f4)] 34 (0, 0)) (by (with_reducible repeat (first | refine blk_drewN ?_ _ | refine blk_drew ?_ | refine blk_alloc ?_ _)); exact BK251.out)) (below_size (by repeat (first | (with_reducible first | exact HB.out | apply below_alloc | apply pw_below_drewN | apply below_drew1 | refine below_set ?_ GE251.out) | exact HB.out))))
                                            have n1_ := Aside0.mk (blk_below (g := gb251) (o := .cells #[.int .u32 ((rd_T34 l0 t232).f0), .int .u32 ((rd_T34 l0 t234).f0), .string (rdOf ByteArray.empty t228 (ji24)), .bool ((rd_T34 l0 t232).f3), .int .u32 ((rd_T34 l0 t232).f4)] 34 (0, 0)) (by (with_reducible repeat (first | refine blk_drewN ?_ _ | refine blk_drew ?_ | refine blk_alloc ?_ _)); exact BK251.out) hb)
                                            have n2_ := Aside0.mk (below_step (by repeat (first | (with_reducible first | exact HB.out | apply below_alloc | apply pw_below_drewN | apply below_drew1 | refine below_set ?_ GE251.out) | exact HB.out)) hb)
                                            clear BK251
                                            clear HB
                                            have HO255 := n0_
                                            have BK251 := n1_
                                            have HB := n2_
                                            clear n0_ n1_ n2_
                                            (try clear hb)
                                            (try clear hb2)
                                            (try clear hk)
                                            (try clear hi)
                                            (try clear ho0)
                                            obtain ⟨Ao61, co61, eo61⟩ := Kd.R_slice HO255.out
                                            (first | subst eo61 | (injection eo61 with f1_ f2_ f3_; have f4_ := f1_.symm; have f5_ := f3_.symm; clear f1_ f2_ f3_; subst f4_; subst f5_))
                                            refine hK.out _ _ ⟨(blk_cell BK251.out 0).trans rfl, (blk_cell BK251.out 1).trans rfl, (blk_cell BK251.out 2).trans rfl, (blk_cell BK251.out 3).trans rfl, (blk_cell BK251.out 4).trans rfl⟩ (fun hHeld => ?_)
                                            clear hK K
                                            refine norm_ (a' := ?_) ?_ ?_
                                            rotate_left
                                            · show Act.put _ (some 121) _ = _
                                              simp only [Act.put, List.setIfInBounds_toArray, List.set_cons_zero, List.set_cons_succ, i64_w, i32_w]
                                              rfl
                                            refine one_ (i := 4) (N := some 123) #[true, true, true, true, true, false] rfl rfl (by kernel_rfl) (by decide) (fun K hK => ?_)
                                            refine goes_ Tryd.func47 (by kernel_rfl) rfl #[.slice Ao61 t253.length co61, .agg #[.int .u32 ((rd_T34 l0 t232).f0), .int .u32 ((rd_T34 l0 t234).f0), .string (rdOf ByteArray.empty t228 (ji24)), .bool ((rd_T34 l0 t232).f3), .int .u32 ((rd_T34 l0 t232).f4)]] (by rfl) rfl rfl (by (try simp only [List.map_toArray, List.map_cons, List.map_nil]); first | done | (simp only [hji24]; rfl) | rfl | (simp only [List.length_drop, List.length_take]; rfl)) ?_
                                            with_reducible refine (r10_With.calls kj39 _ _ t253 ((rd_T34 l0 t232).f0) ((rd_T34 l0 t234).f0) (rdOf ByteArray.empty t228 (ji24)) ((rd_T34 l0 t232).f3) ((rd_T34 l0 t232).f4) t256 _ ?side1 ?side2 A55.out).mono ?_
                                            (case side1 => repeat (first | exact (Kd.R_reads' HO255.out).2.2 | (with_reducible refine Kd.C_alloc ?_ _) | (with_reducible refine Kd.C_drewN ?_ _) | (with_reducible refine Kd.C_drew ?_)))
                                            (case side2 => exact (Kd.R_reads' HO255.out).2.1)
                                            rintro e w62 ⟨v257, rfl, ho0, hb⟩
                                            refine ⟨_, rfl, ?_⟩
                                            have n0_ := Aside0.mk (Kd.R_elder' (by (with_reducible repeat (first | apply Kd.R_alloc | apply Kd.R_drewN | apply Kd.R_drew)); exact HO255.out) (Kd.R_base ho0) hb)
                                            have n1_ := Aside0.mk (Kd.R_lower (Kd.R_newB (Kd.R_new' ho0 (Kd.R_lt (by (with_reducible repeat (first | apply Kd.R_alloc | apply Kd.R_drewN | apply Kd.R_drew)); exact HO255.out))) (g := gb251) (o := .cells #[.int .u32 ((rd_T34 l0 t232).f0), .int .u32 ((rd_T34 l0 t234).f0), .string (rdOf ByteArray.empty t228 (ji24)), .bool ((rd_T34 l0 t232).f3), .int .u32 ((rd_T34 l0 t232).f4)] 34 (0, 0)) (by (with_reducible repeat (first | refine blk_drewN ?_ _ | refine blk_drew ?_ | refine blk_alloc ?_ _)); exact BK251.out)) (below_size (by repeat (first | (with_reducible first | exact HB.out | apply below_alloc | apply pw_below_drewN | apply below_drew1 | refine below_set ?_ GE251.out) | exact HB.out))))
                                            have n2_ := Aside0.mk (blk_below (g := gb251) (o := .cells #[.int .u32 ((rd_T34 l0 t232).f0), .int .u32 ((rd_T34 l0 t234).f0), .string (rdOf ByteArray.empty t228 (ji24)), .bool ((rd_T34 l0 t232).f3), .int .u32 ((rd_T34 l0 t232).f4)] 34 (0, 0)) (by (with_reducible repeat (first | refine blk_drewN ?_ _ | refine blk_drew ?_ | refine blk_alloc ?_ _)); exact BK251.out) hb)
                                            have n3_ := Aside0.mk (below_step (by repeat (first | (with_reducible first | exact HB.out | apply below_alloc | apply pw_below_drewN | apply below_drew1 | refine below_set ?_ GE251.out) | exact HB.out)) hb)
                                            clear HO255
                                            clear BK251
                                            clear HB
                                            have HO255 := n0_
                                            have HO258 := n1_
                                            have BK251 := n2_
                                            have HB := n3_
                                            clear n0_ n1_ n2_ n3_
                                            (try clear hb)
                                            (try clear hb2)
                                            (try clear hk)
                                            (try clear hi)
                                            (try clear ho0)
                                            refine hK.out _ _ ⟨(blk_cell BK251.out 0).trans rfl, (blk_cell BK251.out 1).trans rfl, (blk_cell BK251.out 2).trans rfl, (blk_cell BK251.out 3).trans rfl, (blk_cell BK251.out 4).trans rfl⟩ (fun hHeld => ?_)
                                            clear hK K
                                            refine norm_ (a' := ?_) ?_ ?_
                                            rotate_left
                                            · show Act.put _ (some 123) _ = _
                                              simp only [Act.put, List.setIfInBounds_toArray, List.set_cons_zero, List.set_cons_succ, i64_w, i32_w]
                                              rfl
                                            refine pure_ (i := 5) (N := some 19) (v := ?_) (a' := ?_) #[true, true, true, true, true, true] rfl rfl (by kernel_rfl) (fun _ _ _ h => h) (Or.inl ⟨by rfl, ?_⟩) ?_ ?_
                                            rotate_left
                                            · intro w'
                                              go_simp
                                              with_reducible rfl
                                            rotate_left
                                            · simp only [Act.put, List.setIfInBounds_toArray, List.set_cons_zero, List.set_cons_succ, i64_w, i32_w]
                                              rfl
                                            refine done_ (by kernel_rfl) ?_
                                            try go_wp2
                                            go_loopg [20] kj39 (fun kq v20 w' => ∃ (x20_3 : Int), v20 = .int .i64 x20_3 ∧ Aside0 (r10_Rename.l0 kq t256 x20_3 = some (r1, r2)) ∧ Aside0 (kq ≤ kj39) ∧ Aside0 (Kd.R k34 34 w' w.heap.size (fun k_ => k_ ≠ gb251) v257 t256) ∧ Aside0 (w'.heap[gb251]? = some (.cells #[.int .u32 ((rd_T34 l0 t232).f0), .int .u32 ((rd_T34 l0 t234).f0), .string (rdOf ByteArray.empty t228 (ji24)), .bool ((rd_T34 l0 t232).f3), .int .u32 ((rd_T34 l0 t232).f4)] 34 (0, 0))) ∧ Aside0 (Below w.heap.size w w'))
                                            case atStart => exact ⟨(0), (by first | rfl | (simp; done) | (simp [*]; done)), H', ⟨Nat.le_refl _⟩, ⟨by (with_reducible repeat (first | apply Kd.R_alloc | apply Kd.R_drewN | apply Kd.R_drew)); exact Kd.R_mono HO258.out (fun _ hk => hk.2)⟩, ⟨by (with_reducible repeat (first | refine blk_drewN ?_ _ | refine blk_drew ?_ | refine blk_alloc ?_ _)); exact BK251.out⟩, ⟨by repeat (first | (with_reducible first | exact HB.out | apply below_alloc | apply pw_below_drewN | apply below_drew1 | refine below_set ?_ GE251.out) | exact HB.out)⟩⟩
                                            case round =>
                                              clear H'
                                              try clear c1
                                              try clear c2
                                              try clear p2
                                              try clear q2
                                              try clear hx2
                                              try clear c3
                                              try clear c4
                                              try clear c5
                                              try clear p6
                                              try clear c13
                                              try clear c15
                                              try clear c15b0
                                              try clear c15b1
                                              try clear c16
                                              try clear c16b0
                                              try clear c16b1
                                              try clear c19
                                              try clear c19b0
                                              try clear c19b1
                                              try clear c21
                                              try clear p23
                                              try clear q23
                                              try clear hx23
                                              try clear p24
                                              try clear q24
                                              try clear hx24
                                              try clear c25
                                              try clear c25b0
                                              try clear p25
                                              try clear q25
                                              try clear hx25
                                              try clear c26
                                              try clear c26b0
                                              try clear c27
                                              try clear c27b0
                                              try clear c28
                                              try clear c28b0
                                              try clear c30
                                              try clear c30b0
                                              try clear c30b1
                                              try clear c31
                                              try clear c37
                                              try clear c37b0
                                              try clear c42
                                              try clear c43
                                              try clear c43b0
                                              try clear c44
                                              try clear c44b0
                                              try clear c45
                                              try clear c45b0
                                              try clear c45b1
                                              try clear c46
                                              try clear c47
                                              try clear c48
                                              try clear c49
                                              try clear c50
                                              try clear c50b0
                                              try clear c51
                                              try clear c51b0
                                              try clear c52
                                              try clear c52b0
                                              try clear c53
                                              try clear c53b0
                                              try clear hcz57_0
                                              try clear hcz57_1
                                              try clear hcz57_2
                                              try clear hcz57_3
                                              try clear hcz57_4
                                              try clear hfz57_0
                                              try clear hfz57_1
                                              try clear hfz57_2
                                              try clear hfz57_3
                                              try clear hfz57_4
                                              try clear hx237_0
                                              try clear hx238_0
                                              try clear hx238_1
                                              try clear hx238_2
                                              try clear hx238_3
                                              try clear hx238_4
                                              try clear hx246_0
                                              try clear hx246_1
                                              try clear hx246_2
                                              try clear hx246_3
                                              try clear hx246_4
                                              try clear hx247_0
                                              try clear hx247_1
                                              try clear hx247_2
                                              try clear hx247_3
                                              try clear hx247_4
                                              try clear hx248_0
                                              try clear hx248_1
                                              try clear hx248_2
                                              try clear hx248_3
                                              try clear hx248_4
                                              try clear hx250_0
                                              try clear hx250_1
                                              try clear hx250_2
                                              try clear hx250_3
                                              try clear hx250_4
                                              try clear hx252_0
                                              try clear hx252_1
                                              try clear hx252_2
                                              try clear hx252_3
                                              try clear hx252_4
                                              try clear p2
                                              try clear p23
                                              try clear p237
                                              try clear p238
                                              try clear p24
                                              try clear p246
                                              try clear p247
                                              try clear p248
                                              try clear p250
                                              try clear p252
                                              try clear p6
                                              try clear q2
                                              try clear q23
                                              try clear q237
                                              try clear q238
                                              try clear q24
                                              try clear q246
                                              try clear q247
                                              try clear q248
                                              try clear q250
                                              try clear q252
                                              obtain ⟨x20_3, rfl, HA, HK3, HO_19, BK251, HB⟩ := hrel
                                              cases gk with
                                              | zero => exact absurd HA.out (by simp [r10_Rename.l0])
                                              | succ k3 =>
                                                have H := HA.out
                                                clear HA
                                                simp only [r10_Rename.l0] at H
                                                by_cases c63 : x20_3 < (t256.length : Int)
                                                · rw [if_pos c63] at H
                                                  have c63b0 : decide (x20_3 < (t256.length : Int)) = true := decide_eq_true c63
                                                  clear c63
                                                  replace H := Option.bind_eq_some_iff.mp H
                                                  obtain ⟨t259, A640, H⟩ := H
                                                  replace H : (if t259 > 6 then (some (([] : List (S34)), 9)) else (r10_Rename.l0 k3 t256 (wrap64 (x20_3 + 1)))) = some (r1, r2) := H
                                                  have A64 := Aside0.mk A640
                                                  clear A640
                                                  by_cases c65 : t259 > 6
                                                  · rw [if_pos c65] at H
                                                    have c65b0 : decide (6 < t259) = true := decide_eq_true c65
                                                    clear c65
                                                    simp only [Option.some.injEq, Prod.mk.injEq] at H
                                                    obtain ⟨rfl, rfl⟩ := H
                                                    obtain ⟨Ao66, co66, eo66⟩ := Kd.R_slice HO_19.out
                                                    subst eo66
                                                    go_wp2_with (first | ((with_reducible refine gate_callee (f := 49) rfl ?_); refine goesL_ (some 132) rfl rfl Tryd.func49 (by kernel_rfl) rfl #[.slice Ao66 t256.length co66, .int .i64 x20_3] rfl (by (try simp only [List.map_toArray, List.map_cons, List.map_nil]); first | done | rfl | (simp only [List.length_drop, List.length_take]; rfl)) ?_; (with_reducible refine (r10_Depth.calls k3 _ _ t256 x20_3 t259 _ ?side1 ?side2 A64.out).mono ?_); (case side1 => repeat (first | exact (Kd.R_reads' HO_19.out).2.2 | (with_reducible refine Kd.C_alloc ?_ _) | (with_reducible refine Kd.C_drewN ?_ _) | (with_reducible refine Kd.C_drew ?_))); (case side2 => exact (Kd.R_reads' HO_19.out).2.1); rintro e w' ⟨rfl, ⟨nd, rfl⟩⟩; refine ⟨_, rfl, ?_⟩))
                                                    go_ret2
                                                    exact ⟨_, by first | rfl | (simp [errW_none, errW_some] <;> rfl) | (simp only [← hji24]; first | rfl | (simp [errW_none, errW_some] <;> rfl)) | (simp [*, errW_none, errW_some] <;> rfl), by first | exact Kd.R_nil _ _ _ _ _ | exact Kd.N_nil _ _ _ _ _ | exact Kd.V_nil _ _ _ _ _ | exact Kd.Q_nil _ _ _ _ _ | exact Kd.S_nil _ _ _ _ _, by repeat (first | (with_reducible first | exact HB.out | apply below_alloc | apply pw_below_drewN | apply below_drew1 | refine below_set ?_ GE251.out) | exact HB.out)⟩
                                                  · rw [if_neg c65] at H
                                                    have c65b0 : decide (6 < t259) = false := decide_eq_false c65
                                                    clear c65
                                                    have H' := Aside0.mk H
                                                    clear H
                                                    obtain ⟨Ao67, co67, eo67⟩ := Kd.R_slice HO_19.out
                                                    subst eo67
                                                    go_wp2_with (first | ((with_reducible refine gate_callee (f := 49) rfl ?_); refine goesL_ (some 132) rfl rfl Tryd.func49 (by kernel_rfl) rfl #[.slice Ao67 t256.length co67, .int .i64 x20_3] rfl (by (try simp only [List.map_toArray, List.map_cons, List.map_nil]); first | done | rfl | (simp only [List.length_drop, List.length_take]; rfl)) ?_; (with_reducible refine (r10_Depth.calls k3 _ _ t256 x20_3 t259 _ ?side1 ?side2 A64.out).mono ?_); (case side1 => repeat (first | exact (Kd.R_reads' HO_19.out).2.2 | (with_reducible refine Kd.C_alloc ?_ _) | (with_reducible refine Kd.C_drewN ?_ _) | (with_reducible refine Kd.C_drew ?_))); (case side2 => exact (Kd.R_reads' HO_19.out).2.1); rintro e w' ⟨rfl, ⟨nd, rfl⟩⟩; refine ⟨_, rfl, ?_⟩))
                                                    go_roundg k3
                                                    case measure => have := HJ7.out; have := HJ39.out; have := HK3.out; omega
                                                    case rel => exact ⟨(wrap64 (x20_3 + 1)), (by first | rfl | (simp; done) | (simp [*]; done)), H', ⟨by have := HJ7.out; have := HJ39.out; have := HK3.out; omega⟩, ⟨by (with_reducible repeat (first | apply Kd.R_alloc | apply Kd.R_drewN | apply Kd.R_drew)); exact HO_19.out⟩, ⟨by (with_reducible repeat (first | refine blk_drewN ?_ _ | refine blk_drew ?_ | refine blk_alloc ?_ _)); exact BK251.out⟩, ⟨by repeat (first | (with_reducible first | exact HB.out | apply below_alloc | apply pw_below_drewN | apply below_drew1 | refine below_set ?_ GE251.out) | exact HB.out)⟩⟩
                                                · rw [if_neg c63] at H
                                                  have c63b0 : decide (x20_3 < (t256.length : Int)) = false := decide_eq_false c63
                                                  clear c63
                                                  simp only [Option.some.injEq, Prod.mk.injEq] at H
                                                  obtain ⟨rfl, rfl⟩ := H
                                                  obtain ⟨Ao68, co68, eo68⟩ := Kd.R_slice HO_19.out
                                                  subst eo68
                                                  go_wp2
                                                  go_ret2
                                                  exact ⟨_, by first | rfl | (simp [errW_none, errW_some] <;> rfl) | (simp only [← hji24]; first | rfl | (simp [errW_none, errW_some] <;> rfl)) | (simp [*, errW_none, errW_some] <;> rfl), by (with_reducible repeat (first | apply Kd.R_alloc | apply Kd.R_drewN | apply Kd.R_drew)); exact Kd.R_mono HO_19.out (fun _ hk => trivial), by repeat (first | (with_reducible first | exact HB.out | apply below_alloc | apply pw_below_drewN | apply below_drew1 | refine below_set ?_ GE251.out) | exact HB.out)⟩
                                          · rw [if_neg c53] at H
                                            exact absurd H (by simp)
                                        · rw [if_neg c52] at H
                                          exact absurd H (by simp)
                                      · rw [if_neg c51] at H
                                        exact absurd H (by simp)
                                    · rw [if_neg c50] at H
                                      exact absurd H (by simp)
                        · rw [if_neg c28] at H
                          exact absurd H (by simp)
                      · rw [if_neg c27] at H
                        exact absurd H (by simp)
                    · rw [if_neg c26] at H
                      exact absurd H (by simp)
                  · rw [if_neg c25] at H
                    exact absurd H (by simp)
              · rw [if_neg c19] at H
                have c19b0 : (t235 == 0) = false := beq_eq_false_iff_ne.mpr c19
                have c19b1 : (t235 != 0) = true := bne_iff_ne.mpr c19
                simp only [Option.some.injEq, Prod.mk.injEq] at H
                obtain ⟨rfl, rfl⟩ := H
                obtain ⟨Ao69, co69, eo69⟩ := Kd.R_slice HO_8.out
                subst eo69
                go_wp2_with (first | ((with_reducible refine gate_callee (f := 42) rfl ?_); refine goesL_ (some 43) rfl rfl Tryd.func42 (by kernel_rfl) rfl #[.slice A0 l0.length c0, .slice Ao69 t224.length co69] rfl (by (try simp only [List.map_toArray, List.map_cons, List.map_nil]); first | done | rfl | (simp only [List.length_drop, List.length_take]; rfl)) ?_; (with_reducible refine (r10_Walk.calls kj7 _ _ l0 _ _ t224 t232 t233 _ ?side1 ?side2 ?side3 ?side4 A14.out).mono ?_); (case side1 => repeat (first | exact (Kd.C_below HR0.out HB.out) | (with_reducible refine Kd.C_alloc ?_ _) | (with_reducible refine Kd.C_drewN ?_ _) | (with_reducible refine Kd.C_drew ?_))); (case side2 => exact HC0.out); (case side3 => repeat (first | exact (Kd.R_reads' HO_8.out).2.2 | (with_reducible refine Kd.C_alloc ?_ _) | (with_reducible refine Kd.C_drewN ?_ _) | (with_reducible refine Kd.C_drew ?_))); (case side4 => exact (Kd.R_reads' HO_8.out).2.1); rintro e w' ⟨rfl, ⟨nd, rfl⟩⟩; refine ⟨_, rfl, ?_⟩; obtain ⟨Ao70, co70, eo70⟩ := Kd.R_slice HO_10.out; subst eo70) | ((with_reducible refine gate_callee (f := 43) rfl ?_); refine goesL_ (some 54) rfl rfl Tryd.func43 (by kernel_rfl) rfl #[.slice A0 l0.length c0, .slice Ao70 t228.length co70] rfl (by (try simp only [List.map_toArray, List.map_cons, List.map_nil]); first | done | rfl | (simp only [List.length_drop, List.length_take]; rfl)) ?_; (with_reducible refine (r10_Above.calls kj7 _ _ l0 _ _ t228 t234 t235 _ ?side1 ?side2 ?side3 ?side4 A18.out).mono ?_); (case side1 => repeat (first | exact (Kd.C_below HR0.out (by repeat (first | (with_reducible first | exact HB.out | apply below_alloc | apply pw_below_drewN | apply below_drew1) | exact HB.out))) | (with_reducible refine Kd.C_alloc ?_ _) | (with_reducible refine Kd.C_drewN ?_ _) | (with_reducible refine Kd.C_drew ?_))); (case side2 => exact HC0.out); (case side3 => repeat (first | exact (Kd.R_reads' HO_10.out).2.2 | (with_reducible refine Kd.C_alloc ?_ _) | (with_reducible refine Kd.C_drewN ?_ _) | (with_reducible refine Kd.C_drew ?_))); (case side4 => exact (Kd.R_reads' HO_10.out).2.1); rintro e w' ⟨rfl, ⟨nd, rfl⟩⟩; refine ⟨_, rfl, ?_⟩))
                go_ret2
                exact ⟨_, by first | rfl | (simp [errW_none, errW_some] <;> rfl) | (simp [*, errW_none, errW_some] <;> rfl), by first | exact Kd.R_nil _ _ _ _ _ | exact Kd.N_nil _ _ _ _ _ | exact Kd.V_nil _ _ _ _ _ | exact Kd.Q_nil _ _ _ _ _ | exact Kd.S_nil _ _ _ _ _, by repeat (first | (with_reducible first | exact HB.out | apply below_alloc | apply pw_below_drewN | apply below_drew1) | exact HB.out)⟩
          · rw [if_neg c15] at H
            have c15b0 : (t233 == 0) = false := beq_eq_false_iff_ne.mpr c15
            have c15b1 : (t233 != 0) = true := bne_iff_ne.mpr c15
            simp only [Option.some.injEq, Prod.mk.injEq] at H
            obtain ⟨rfl, rfl⟩ := H
            obtain ⟨Ao71, co71, eo71⟩ := Kd.R_slice HO_8.out
            subst eo71
            go_wp2_with (first | ((with_reducible refine gate_callee (f := 42) rfl ?_); refine goesL_ (some 43) rfl rfl Tryd.func42 (by kernel_rfl) rfl #[.slice A0 l0.length c0, .slice Ao71 t224.length co71] rfl (by (try simp only [List.map_toArray, List.map_cons, List.map_nil]); first | done | rfl | (simp only [List.length_drop, List.length_take]; rfl)) ?_; (with_reducible refine (r10_Walk.calls kj7 _ _ l0 _ _ t224 t232 t233 _ ?side1 ?side2 ?side3 ?side4 A14.out).mono ?_); (case side1 => repeat (first | exact (Kd.C_below HR0.out HB.out) | (with_reducible refine Kd.C_alloc ?_ _) | (with_reducible refine Kd.C_drewN ?_ _) | (with_reducible refine Kd.C_drew ?_))); (case side2 => exact HC0.out); (case side3 => repeat (first | exact (Kd.R_reads' HO_8.out).2.2 | (with_reducible refine Kd.C_alloc ?_ _) | (with_reducible refine Kd.C_drewN ?_ _) | (with_reducible refine Kd.C_drew ?_))); (case side4 => exact (Kd.R_reads' HO_8.out).2.1); rintro e w' ⟨rfl, ⟨nd, rfl⟩⟩; refine ⟨_, rfl, ?_⟩))
            go_ret2
            exact ⟨_, by first | rfl | (simp [errW_none, errW_some] <;> rfl) | (simp [*, errW_none, errW_some] <;> rfl), by first | exact Kd.R_nil _ _ _ _ _ | exact Kd.N_nil _ _ _ _ _ | exact Kd.V_nil _ _ _ _ _ | exact Kd.Q_nil _ _ _ _ _ | exact Kd.S_nil _ _ _ _ _, by repeat (first | (with_reducible first | exact HB.out | apply below_alloc | apply pw_below_drewN | apply below_drew1) | exact HB.out)⟩
  · replace c5 := Bool.eq_false_iff.mpr c5
    subst c5
    have H1 : (some (([] : List (S34)), 1)) = some (r1, r2) := by rw [if_neg (show ¬ (false = true) by decide)] at H; exact H
    clear H
    have H := H1
    clear H1
    simp only [Option.some.injEq, Prod.mk.injEq] at H
    obtain ⟨rfl, rfl⟩ := H
    go_enter Tryd.func14, Tryd.ntmps14
    go_wp2_with (first | ((with_reducible refine gate_callee (f := 16) rfl ?_); refine goesL_ (some 22) rfl rfl Tryd.func16 (by kernel_rfl) rfl #[.slice A0 l0.length c0] rfl (by (try simp only [List.map_toArray, List.map_cons, List.map_nil]); first | done | rfl | (simp only [List.length_drop, List.length_take]; rfl)) ?_; (with_reducible refine (r10_Right.calls _ _ l0 false _ ?side1 ?side2 A4.out).mono ?_); (case side1 => repeat (first | exact HR0.out | (with_reducible refine Kd.C_alloc ?_ _) | (with_reducible refine Kd.C_drewN ?_ _) | (with_reducible refine Kd.C_drew ?_))); (case side2 => exact HC0.out); rintro e w72 ⟨rfl, hb⟩; refine ⟨_, rfl, ?_⟩; have n0_ := Aside0.mk (below_step (by repeat (first | (with_reducible first | exact HB.out | apply below_alloc | apply pw_below_drewN | apply below_drew1) | exact HB.out)) hb); clear HB; have HB := n0_; clear n0_; (try clear hb); (try clear hb2); (try clear hk); (try clear hi)))
    go_ret2
    exact ⟨_, by first | rfl | (simp [errW_none, errW_some] <;> rfl) | (simp [*, errW_none, errW_some] <;> rfl), by first | exact Kd.R_nil _ _ _ _ _ | exact Kd.N_nil _ _ _ _ _ | exact Kd.V_nil _ _ _ _ _ | exact Kd.Q_nil _ _ _ _ _ | exact Kd.S_nil _ _ _ _ _, by repeat (first | (with_reducible first | exact HB.out | apply below_alloc | apply pw_below_drewN | apply below_drew1) | exact HB.out)⟩

end Go.Proofs.YthbdgahmlggpmaaDoor.Q
