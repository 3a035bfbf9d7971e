/- Contracts and plain theory of this seat, merged out of smaller texts: T3, T3b. -/
import Derived.Test.YthbdgahmlggpmaaDoorQ0
import Derived.Outline
import Derived.Laws.CopyOwn
/- The contract of tree.get (slices.BinarySearchFunc by Id), for every list of inodes that rises by Id. -/


namespace Go.Proofs.YthbdgahmlggpmaaDoor.Q
open Go.RowKit Go.Proofs.YthbdgahmlggpmaaDoorW.PrintWords Go.Proofs.YthbdgahmlggpmaaDoorW.PrintLast Go.Proofs.YthbdgahmlggpmaaDoorW.PrintMore
set_option linter.unusedVariables false
set_option linter.unusedSimpArgs false
set_option maxHeartbeats 4000000 in
set_option maxRecDepth 100000 in
theorem cmp65.calls (x : S34) (id : Int) (w : World) (h0 : 0 ≤ x.f0) (h1 : x.f0 ≤ 4294967295) (h2 : 0 ≤ id) (h3 : id ≤ 4294967295) :
    Calls Tryd.prog 65 #[.agg #[.int .u32 x.f0, .int .u32 x.f1, .string x.f2, .bool x.f3, .int .u32 x.f4], .int .u32 id] w fun e w' => e = .returned (.int .i64 (x.f0 - id)) ∧ Below w.heap.size w w' := by
  obtain ⟨y0, y1, y2, y3, y4⟩ := x
  simp only at h0 h1 ⊢
  go_enter Tryd.func65, Tryd.ntmps65
  go_wp2
  go_ret
  exact ⟨rfl, below_alloc (Below.refl _ _) _⟩
set_option maxHeartbeats 4000000 in
set_option maxRecDepth 100000 in
theorem cmp63.calls (x : S34) (id : Int) (w : World) (h0 : 0 ≤ x.f0) (h1 : x.f0 ≤ 4294967295) (h2 : 0 ≤ id) (h3 : id ≤ 4294967295) :
    Calls Tryd.prog 63 #[.agg #[.int .u32 x.f0, .int .u32 x.f1, .string x.f2, .bool x.f3, .int .u32 x.f4], .int .u32 id] w fun e w' => e = .returned (.int .i64 (x.f0 - id)) ∧ Below w.heap.size w w' := by
  obtain ⟨y0, y1, y2, y3, y4⟩ := x
  simp only at h0 h1 ⊢
  go_enter Tryd.func63, Tryd.ntmps63
  go_wp2
  go_ret
  exact ⟨rfl, below_alloc (Below.refl _ _) _⟩
/-- BinarySearchFunc, by the comparison @F@. -/
def lowF (t : List S34) (id : Int) : Nat → Nat → Nat → Option Nat
  | 0, _, _ => none
  | k + 1, i, j => if i < j then (if (rd_T34 t (((i + j) / 2 : Nat) : Int)).f0 < id then lowF t id k ((i + j) / 2 + 1) j else lowF t id k i ((i + j) / 2)) else some i
theorem rd_T34_mem65 (l : List S34) (i : Nat) (h : i < l.length) : rd_T34 l (i : Int) ∈ l := by
  simp [rd_T34, List.getD_eq_getElem?_getD, List.getElem?_eq_getElem h]
set_option maxHeartbeats 4000000 in
set_option maxRecDepth 100000 in
theorem bsearch65.calls (k : Nat) (A0 : Option Addr) (c0 : Nat) (t : List S34) (id : Int) (r : Nat) (w : World) (hr0 : Kd.C k34 w A0 t.length t) (hc0 : t.length ≤ c0) (hlt1 : t.length ≤ 1000) (hid : 0 ≤ id ∧ id ≤ 4294967295) (hwf : ∀ x ∈ t, 0 ≤ x.f0 ∧ x.f0 ≤ 4294967295) (h : lowF t id k 0 t.length = some r) :
    Calls Tryd.prog 62 #[.slice A0 t.length c0, .int .u32 id, .func (.func 65) #[] #[]] w fun e w' => e = .returned (.tuple #[.int .i64 r, .bool (decide (r < t.length) && ((rd_T34 t r).f0 == id))]) ∧ Below w.heap.size w w' := by
  have hlen := hr0.2.1
  have HR0 := Aside0.mk hr0
  have HC0 := Aside0.mk hc0
  have HWF := Aside0.mk hwf
  have HH := Aside0.mk h
  obtain ⟨hi0, hi1⟩ := hid
  clear hr0 hc0 hwf h
  go_enter Tryd.func62, Tryd.ntmps62
  go_wp2
  go_loopw [9, 10] (fun v9 v10 wr => ∃ (i j q : Nat), i ≤ j ∧ j ≤ t.length ∧ v9 = .int .i64 i ∧ v10 = .int .i64 j ∧ Aside0 (lowF t id q i j = some r) ∧ Aside0 (Below w.heap.size w wr)) (fun v9 v10 _ => (intOf v10).toNat - (intOf v9).toNat)
  case atStart => exact ⟨0, t.length, k, Nat.zero_le _, Nat.le_refl _, rfl, rfl, HH, ⟨Below.refl _ _⟩⟩
  case round =>
    obtain ⟨i, j, q, hij, hj, rfl, rfl, HQ, HB⟩ := hrel
    by_cases hlt : i < j
    · obtain ⟨s, hs⟩ : ∃ s : Nat, s = i + j := ⟨_, rfl⟩
      obtain ⟨m, hm⟩ : ∃ m : Nat, m = s / 2 := ⟨_, rfl⟩
      have s1 : (i : Int) + (j : Int) = (s : Int) := by omega
      have s2 : wrap64 (s : Int) = (s : Int) := by unfold wrap64; omega
      have s3 : IntKind.u64.wrap (s : Int) = (s : Int) := by
        simp only [IntKind.wrap, IntKind.bits, IntKind.signed]
        simp
        omega
      have s4 : (s : Int) / 2 = (m : Int) := by omega
      have s5 : wrap64 (m : Int) = (m : Int) := by unfold wrap64; omega
      have hmt : m < t.length := by omega
      have hmj : m < j := by omega
      have him : i ≤ m := by omega
      have HX := HWF.out _ (rd_T34_mem65 t m hmt)
      obtain ⟨ad, e, x0, x1, x2, x3, x4⟩ := at_T34 HR0.out m (by omega) (by omega)
      cases e
      simp only [Int.toNat_natCast] at x0 x1 x2 x3 x4
      have keep : ∀ (a : Addr) (v : Value), w.cell? a = some v → wr.cell? a = some v := fun a v h => (HB.out.cell (World.block_lt_of_cell? w _ h)).trans h
      replace x0 := keep _ _ x0
      replace x1 := keep _ _ x1
      replace x2 := keep _ _ x2
      replace x3 := keep _ _ x3
      replace x4 := keep _ _ x4
      clear keep
      have hq := HQ.out
      obtain ⟨q, rfl⟩ : ∃ p, q = p + 1 := by
        cases q with
        | zero => simp [lowF] at hq
        | succ p => exact ⟨p, rfl⟩
      simp only [lowF] at hq
      have e2 : (i + j) / 2 = m := by omega
      rw [if_pos hlt, e2] at hq
      clear hs hm e2
      generalize hx : rd_T34 t (m : Int) = x at hq HX x0 x1 x2 x3 x4
      obtain ⟨b0, b1⟩ := HX
      by_cases hc : x.f0 < id
      · rw [if_pos hc] at hq
        have HQ' := Aside0.mk hq
        have hc' : x.f0 - id < 0 := by omega
        clear hq hx
        go_wp2_with (go_at_call 65; refine (cmp65.calls x id _ b0 b1 hi0 hi1).mono ?_; rintro e w1 ⟨rfl, hb1⟩; have HB1 := Aside0.mk hb1; clear hb1)
        go_roundw
        case rel => exact ⟨m + 1, j, q, by omega, hj, by go_num, rfl, HQ', ⟨below_step HB.out HB1.out⟩⟩
        case measure => simp [intOf]; omega
      · rw [if_neg hc] at hq
        have HQ' := Aside0.mk hq
        have hc' : ¬ x.f0 - id < 0 := by omega
        have hc2 : decide (x.f0 - id < 0) = false := decide_eq_false hc'
        clear hq hx
        go_wp2_with (go_at_call 65; refine (cmp65.calls x id _ b0 b1 hi0 hi1).mono ?_; rintro e w1 ⟨rfl, hb1⟩; have HB1 := Aside0.mk hb1; clear hb1)
        go_roundw
        case rel => exact ⟨i, m, q, him, by omega, rfl, rfl, HQ', ⟨below_step HB.out HB1.out⟩⟩
        case measure => simp [intOf]; omega
    · have hq := HQ.out
      obtain ⟨q, rfl⟩ : ∃ p, q = p + 1 := by
        cases q with
        | zero => simp [lowF] at hq
        | succ p => exact ⟨p, rfl⟩
      simp only [lowF] at hq
      rw [if_neg hlt] at hq
      obtain rfl := Option.some.inj hq
      clear hq HQ
      by_cases hin : i < t.length
      · obtain ⟨ad, e, x0, x1, x2, x3, x4⟩ := at_T34 HR0.out i (by omega) (by omega)
        cases e
        simp only [Int.toNat_natCast] at x0 x1 x2 x3 x4
        have keep : ∀ (a : Addr) (v : Value), w.cell? a = some v → wr.cell? a = some v := fun a v h => (HB.out.cell (World.block_lt_of_cell? w _ h)).trans h
        replace x0 := keep _ _ x0
        replace x1 := keep _ _ x1
        replace x2 := keep _ _ x2
        replace x3 := keep _ _ x3
        replace x4 := keep _ _ x4
        clear keep
        have HX := HWF.out _ (rd_T34_mem65 t i hin)
        have hin' : decide (i < t.length) = true := decide_eq_true hin
        have EIN := Aside0.mk hin'
        generalize hx : rd_T34 t (i : Int) = x at HX x0 x1 x2 x3 x4
        obtain ⟨b0, b1⟩ := HX
        have eqv : ((x.f0 - id) == (0 : Int)) = (x.f0 == id) := by
          rw [Bool.eq_iff_iff, beq_iff_eq, beq_iff_eq]; omega
        have EQV := Aside0.mk eqv
        have HXE := Aside0.mk hx
        clear eqv hx
        go_wp2_with (go_at_call 65; refine (cmp65.calls x id _ b0 b1 hi0 hi1).mono ?_; rintro e w1 ⟨rfl, hb1⟩; have HB1 := Aside0.mk hb1; clear hb1)
        go_ret2
        refine ⟨?_, below_step HB.out HB1.out⟩
        rw [HXE.out, EIN.out, Bool.true_and, ← EQV.out]
        rfl
      · have hin' : decide (i < t.length) = false := decide_eq_false hin
        have hin2 : decide ((i : Int) < (t.length : Int)) = false := decide_eq_false (by omega)
        have EIN := Aside0.mk hin'
        go_wp2
        go_ret2
        refine ⟨?_, HB.out⟩
        rw [EIN.out, Bool.false_and]
        rfl
theorem rd_T34_mem63 (l : List S34) (i : Nat) (h : i < l.length) : rd_T34 l (i : Int) ∈ l := by
  simp [rd_T34, List.getD_eq_getElem?_getD, List.getElem?_eq_getElem h]
set_option maxHeartbeats 4000000 in
set_option maxRecDepth 100000 in
theorem bsearch63.calls (k : Nat) (A0 : Option Addr) (c0 : Nat) (t : List S34) (id : Int) (r : Nat) (w : World) (hr0 : Kd.C k34 w A0 t.length t) (hc0 : t.length ≤ c0) (hlt1 : t.length ≤ 1000) (hid : 0 ≤ id ∧ id ≤ 4294967295) (hwf : ∀ x ∈ t, 0 ≤ x.f0 ∧ x.f0 ≤ 4294967295) (h : lowF t id k 0 t.length = some r) :
    Calls Tryd.prog 62 #[.slice A0 t.length c0, .int .u32 id, .func (.func 63) #[] #[]] w fun e w' => e = .returned (.tuple #[.int .i64 r, .bool (decide (r < t.length) && ((rd_T34 t r).f0 == id))]) ∧ Below w.heap.size w w' := by
  have hlen := hr0.2.1
  have HR0 := Aside0.mk hr0
  have HC0 := Aside0.mk hc0
  have HWF := Aside0.mk hwf
  have HH := Aside0.mk h
  obtain ⟨hi0, hi1⟩ := hid
  clear hr0 hc0 hwf h
  go_enter Tryd.func62, Tryd.ntmps62
  go_wp2
  go_loopw [9, 10] (fun v9 v10 wr => ∃ (i j q : Nat), i ≤ j ∧ j ≤ t.length ∧ v9 = .int .i64 i ∧ v10 = .int .i64 j ∧ Aside0 (lowF t id q i j = some r) ∧ Aside0 (Below w.heap.size w wr)) (fun v9 v10 _ => (intOf v10).toNat - (intOf v9).toNat)
  case atStart => exact ⟨0, t.length, k, Nat.zero_le _, Nat.le_refl _, rfl, rfl, HH, ⟨Below.refl _ _⟩⟩
  case round =>
    obtain ⟨i, j, q, hij, hj, rfl, rfl, HQ, HB⟩ := hrel
    by_cases hlt : i < j
    · obtain ⟨s, hs⟩ : ∃ s : Nat, s = i + j := ⟨_, rfl⟩
      obtain ⟨m, hm⟩ : ∃ m : Nat, m = s / 2 := ⟨_, rfl⟩
      have s1 : (i : Int) + (j : Int) = (s : Int) := by omega
      have s2 : wrap64 (s : Int) = (s : Int) := by unfold wrap64; omega
      have s3 : IntKind.u64.wrap (s : Int) = (s : Int) := by
        simp only [IntKind.wrap, IntKind.bits, IntKind.signed]
        simp
        omega
      have s4 : (s : Int) / 2 = (m : Int) := by omega
      have s5 : wrap64 (m : Int) = (m : Int) := by unfold wrap64; omega
      have hmt : m < t.length := by omega
      have hmj : m < j := by omega
      have him : i ≤ m := by omega
      have HX := HWF.out _ (rd_T34_mem63 t m hmt)
      obtain ⟨ad, e, x0, x1, x2, x3, x4⟩ := at_T34 HR0.out m (by omega) (by omega)
      cases e
      simp only [Int.toNat_natCast] at x0 x1 x2 x3 x4
      have keep : ∀ (a : Addr) (v : Value), w.cell? a = some v → wr.cell? a = some v := fun a v h => (HB.out.cell (World.block_lt_of_cell? w _ h)).trans h
      replace x0 := keep _ _ x0
      replace x1 := keep _ _ x1
      replace x2 := keep _ _ x2
      replace x3 := keep _ _ x3
      replace x4 := keep _ _ x4
      clear keep
      have hq := HQ.out
      obtain ⟨q, rfl⟩ : ∃ p, q = p + 1 := by
        cases q with
        | zero => simp [lowF] at hq
        | succ p => exact ⟨p, rfl⟩
      simp only [lowF] at hq
      have e2 : (i + j) / 2 = m := by omega
      rw [if_pos hlt, e2] at hq
      clear hs hm e2
      generalize hx : rd_T34 t (m : Int) = x at hq HX x0 x1 x2 x3 x4
      obtain ⟨b0, b1⟩ := HX
      by_cases hc : x.f0 < id
      · rw [if_pos hc] at hq
        have HQ' := Aside0.mk hq
        have hc' : x.f0 - id < 0 := by omega
        clear hq hx
        go_wp2_with (go_at_call 63; refine (cmp63.calls x id _ b0 b1 hi0 hi1).mono ?_; rintro e w1 ⟨rfl, hb1⟩; have HB1 := Aside0.mk hb1; clear hb1)
        go_roundw
        case rel => exact ⟨m + 1, j, q, by omega, hj, by go_num, rfl, HQ', ⟨below_step HB.out HB1.out⟩⟩
        case measure => simp [intOf]; omega
      · rw [if_neg hc] at hq
        have HQ' := Aside0.mk hq
        have hc' : ¬ x.f0 - id < 0 := by omega
        have hc2 : decide (x.f0 - id < 0) = false := decide_eq_false hc'
        clear hq hx
        go_wp2_with (go_at_call 63; refine (cmp63.calls x id _ b0 b1 hi0 hi1).mono ?_; rintro e w1 ⟨rfl, hb1⟩; have HB1 := Aside0.mk hb1; clear hb1)
        go_roundw
        case rel => exact ⟨i, m, q, him, by omega, rfl, rfl, HQ', ⟨below_step HB.out HB1.out⟩⟩
        case measure => simp [intOf]; omega
    · have hq := HQ.out
      obtain ⟨q, rfl⟩ : ∃ p, q = p + 1 := by
        cases q with
        | zero => simp [lowF] at hq
        | succ p => exact ⟨p, rfl⟩
      simp only [lowF] at hq
      rw [if_neg hlt] at hq
      obtain rfl := Option.some.inj hq
      clear hq HQ
      by_cases hin : i < t.length
      · obtain ⟨ad, e, x0, x1, x2, x3, x4⟩ := at_T34 HR0.out i (by omega) (by omega)
        cases e
        simp only [Int.toNat_natCast] at x0 x1 x2 x3 x4
        have keep : ∀ (a : Addr) (v : Value), w.cell? a = some v → wr.cell? a = some v := fun a v h => (HB.out.cell (World.block_lt_of_cell? w _ h)).trans h
        replace x0 := keep _ _ x0
        replace x1 := keep _ _ x1
        replace x2 := keep _ _ x2
        replace x3 := keep _ _ x3
        replace x4 := keep _ _ x4
        clear keep
        have HX := HWF.out _ (rd_T34_mem63 t i hin)
        have hin' : decide (i < t.length) = true := decide_eq_true hin
        have EIN := Aside0.mk hin'
        generalize hx : rd_T34 t (i : Int) = x at HX x0 x1 x2 x3 x4
        obtain ⟨b0, b1⟩ := HX
        have eqv : ((x.f0 - id) == (0 : Int)) = (x.f0 == id) := by
          rw [Bool.eq_iff_iff, beq_iff_eq, beq_iff_eq]; omega
        have EQV := Aside0.mk eqv
        have HXE := Aside0.mk hx
        clear eqv hx
        go_wp2_with (go_at_call 63; refine (cmp63.calls x id _ b0 b1 hi0 hi1).mono ?_; rintro e w1 ⟨rfl, hb1⟩; have HB1 := Aside0.mk hb1; clear hb1)
        go_ret2
        refine ⟨?_, below_step HB.out HB1.out⟩
        rw [HXE.out, EIN.out, Bool.true_and, ← EQV.out]
        rfl
      · have hin' : decide (i < t.length) = false := decide_eq_false hin
        have hin2 : decide ((i : Int) < (t.length : Int)) = false := decide_eq_false (by omega)
        have EIN := Aside0.mk hin'
        go_wp2
        go_ret2
        refine ⟨?_, HB.out⟩
        rw [EIN.out, Bool.false_and]
        rfl
/-- Ids that rise, from above lo on, each a uint32. -/
def upB : Int → List S34 → Bool
  | _, [] => true
  | lo, x :: t => decide (lo < x.f0) && decide (x.f0 ≤ 4294967295) && upB x.f0 t
theorem upB_cons {lo : Int} {x : S34} {t : List S34} (h : upB lo (x :: t) = true) : lo < x.f0 ∧ x.f0 ≤ 4294967295 ∧ upB x.f0 t = true := by
  simp only [upB, Bool.and_eq_true, decide_eq_true_eq] at h
  exact ⟨h.1.1, h.1.2, h.2⟩
theorem upB_mem : ∀ (t : List S34) (lo : Int), upB lo t = true → ∀ x ∈ t, lo < x.f0 ∧ x.f0 ≤ 4294967295
  | [], lo, _, x, hx => by cases hx
  | y :: t, lo, h, x, hx => by
    obtain ⟨h1, h2, h3⟩ := upB_cons h
    rcases List.mem_cons.1 hx with rfl | hx
    · exact ⟨h1, h2⟩
    · have := upB_mem t y.f0 h3 x hx
      omega
theorem rd_cons0 (y : S34) (t : List S34) : rd_T34 (y :: t) ((0 : Nat) : Int) = y := rfl
theorem rd_consS (y : S34) (t : List S34) (i : Nat) : rd_T34 (y :: t) ((i + 1 : Nat) : Int) = rd_T34 t (i : Int) := by
  simp [rd_T34]
theorem upB_lt : ∀ (t : List S34) (lo : Int), upB lo t = true → ∀ a b : Nat, a < b → b < t.length → (rd_T34 t (a : Int)).f0 < (rd_T34 t (b : Int)).f0
  | [], lo, _, a, b, _, hb => by simp at hb
  | y :: t, lo, h, a, b, hab, hb => by
    obtain ⟨_, _, h3⟩ := upB_cons h
    obtain ⟨b, rfl⟩ : ∃ q, b = q + 1 := ⟨b - 1, by omega⟩
    rw [rd_consS]
    have hb' : b < t.length := by simpa using hb
    rcases Nat.eq_zero_or_pos a with rfl | ha
    · rw [rd_cons0]
      exact (upB_mem t _ h3 _ (rd_T34_mem65 t b hb')).1
    · obtain ⟨a, rfl⟩ : ∃ q, a = q + 1 := ⟨a - 1, by omega⟩
      rw [rd_consS]
      exact upB_lt t _ h3 a b (by omega) hb'
theorem lowF_spec (t : List S34) (id : Int) (hs : ∀ a b : Nat, a < b → b < t.length → (rd_T34 t (a : Int)).f0 < (rd_T34 t (b : Int)).f0) : ∀ (d k i j : Nat), j - i ≤ d → d < k → i ≤ j → j ≤ t.length → (∀ x : Nat, x < i → (rd_T34 t (x : Int)).f0 < id) → (∀ x : Nat, j ≤ x → x < t.length → id ≤ (rd_T34 t (x : Int)).f0) →
    ∃ r, lowF t id k i j = some r ∧ r ≤ t.length ∧ (∀ x : Nat, x < r → (rd_T34 t (x : Int)).f0 < id) ∧ (∀ x : Nat, r ≤ x → x < t.length → id ≤ (rd_T34 t (x : Int)).f0) := by
  intro d
  induction d with
  | zero =>
    intro k i j hd hk hij hj h1 h2
    obtain ⟨k, rfl⟩ : ∃ m, k = m + 1 := ⟨k - 1, by omega⟩
    exact ⟨i, by simp only [lowF]; rw [if_neg (by omega)], by omega, h1, fun x hx => h2 x (by omega)⟩
  | succ d ih =>
    intro k i j hd hk hij hj h1 h2
    obtain ⟨k, rfl⟩ : ∃ m, k = m + 1 := ⟨k - 1, by omega⟩
    simp only [lowF]
    by_cases hlt : i < j
    · rw [if_pos hlt]
      by_cases hc : (rd_T34 t (((i + j) / 2 : Nat) : Int)).f0 < id
      · rw [if_pos hc]
        refine ih k _ _ (by omega) (by omega) (by omega) hj (fun x hx => ?_) h2
        rcases Nat.lt_or_ge x ((i + j) / 2) with h | h
        · have := hs x ((i + j) / 2) h (by omega); omega
        · obtain rfl : x = (i + j) / 2 := by omega
          exact hc
      · rw [if_neg hc]
        refine ih k _ _ (by omega) (by omega) (by omega) (by omega) h1 (fun x hx hx2 => ?_)
        rcases Nat.lt_or_ge ((i + j) / 2) x with h | h
        · have := hs ((i + j) / 2) x h hx2; omega
        · obtain rfl : x = (i + j) / 2 := by omega
          omega
    · rw [if_neg hlt]
      exact ⟨i, rfl, by omega, h1, fun x hx => h2 x (by omega)⟩
/-- The inode of an Id. -/
def findI (t : List S34) (id : Int) : Option S34 := t.find? (fun x => x.f0 == id)
theorem findI_at (t : List S34) (id : Int) (r : Nat) (h1 : ∀ x : Nat, x < r → (rd_T34 t (x : Int)).f0 < id) (h2 : ∀ x : Nat, r ≤ x → x < t.length → id ≤ (rd_T34 t (x : Int)).f0) (hs : ∀ a b : Nat, a < b → b < t.length → (rd_T34 t (a : Int)).f0 < (rd_T34 t (b : Int)).f0) :
    findI t id = if r < t.length ∧ (rd_T34 t (r : Int)).f0 = id then some (rd_T34 t (r : Int)) else none := by
  have rdm : ∀ (i : Nat) (hi : i < t.length), t[i] = rd_T34 t (i : Int) := fun i hi => by simp [rd_T34, List.getD_eq_getElem?_getD, List.getElem?_eq_getElem hi]
  by_cases hc : r < t.length ∧ (rd_T34 t (r : Int)).f0 = id
  · rw [if_pos hc]
    unfold findI
    rw [List.find?_eq_some_iff_getElem]
    exact ⟨by simpa using hc.2, r, hc.1, rdm r hc.1, fun j hj => by rw [rdm j (by omega)]; have := h1 j hj; simp; omega⟩
  · rw [if_neg hc]
    unfold findI
    rw [List.find?_eq_none]
    intro x hx
    obtain ⟨i, hi, rfl⟩ := List.mem_iff_getElem.1 hx
    rw [rdm i hi]
    simp only [beq_iff_eq]
    intro he
    rcases Nat.lt_or_ge i r with h | h
    · have := h1 i h; omega
    · have h3 := h2 r (Nat.le_refl _) (by omega)
      rcases Nat.lt_or_ge r i with h4 | h4
      · have := hs r i h4 hi; omega
      · obtain rfl : i = r := by omega
        exact hc ⟨hi, he⟩
def getDom (l0 : List S34) (a1 : Int) : Bool := decide (l0.length ≤ 1000) && decide (0 ≤ a1) && decide (a1 ≤ 4294967295) && upB (-1) l0
def tree_get.f (l0 : List S34) (a1 : Int) : Option (Int × Int × ByteArray × Bool × Int × Bool) :=
  if getDom l0 a1 = true then some (match findI l0 a1 with
    | some x => (x.f0, x.f1, x.f2, x.f3, x.f4, true)
    | none => (0, 0, ⟨#[]⟩, false, 0, false)) else none
end Go.Proofs.YthbdgahmlggpmaaDoor.Q
/- The contract of tree.get, for every list of inodes that rises by Id. -/



namespace Go.Proofs.YthbdgahmlggpmaaDoor.Q
open Go.RowKit Go.Proofs.YthbdgahmlggpmaaDoorW.PrintWords Go.Proofs.YthbdgahmlggpmaaDoorW.PrintLast Go.Proofs.YthbdgahmlggpmaaDoorW.PrintMore
set_option linter.unusedVariables false
set_option linter.unusedSimpArgs false
theorem lt_alloc (w : World) (o : Obj) : w.heap.size < (w.alloc o).heap.size := (Array.getElem?_eq_some_iff.1 (heap_alloc_new w o)).1
theorem keep_alloc (w w1 : World) (o : Obj) (h : Below (w.alloc o).heap.size (w.alloc o) w1) (a : Addr) (v : Value) (hc : w.cell? a = some v) : w1.cell? a = some v := by
  have h1 := (below_alloc (Below.refl w.heap.size w) o).cell (World.block_lt_of_cell? w _ hc)
  have h2 : (w.alloc o).cell? a = some v := h1.trans hc
  exact (h.cell (World.block_lt_of_cell? _ _ h2)).trans h2
set_option maxHeartbeats 4000000 in
set_option maxRecDepth 100000 in
theorem tree_get.calls (A0 : Option Addr) (c0 : Nat) (l0 : List S34) (a1 : Int) (r1 r2 : Int) (r3 : ByteArray) (r4 : Bool) (r5 : Int) (r6 : Bool) (w : World) (hr0 : Kd.C k34 w A0 l0.length l0) (hc0 : l0.length ≤ c0) (h : tree_get.f l0 a1 = some (r1, r2, r3, r4, r5, r6)) :
    Calls Tryd.prog 51 #[.slice A0 l0.length c0, .int .u32 a1] w fun e w' => e = .returned (.tuple #[.agg #[.int .u32 r1, .int .u32 r2, .string r3, .bool r4, .int .u32 r5], .bool r6]) ∧ Below w.heap.size w w' := by
  unfold tree_get.f at h
  by_cases hd : getDom l0 a1 = true
  · rw [if_pos hd] at h
    have h' := Option.some.inj h
    clear h
    unfold getDom at hd
    simp only [Bool.and_eq_true, decide_eq_true_eq] at hd
    obtain ⟨⟨⟨hl, ha0⟩, ha1⟩, hup⟩ := hd
    have hs := upB_lt l0 _ hup
    obtain ⟨r, hr, hrl, hlo, hhi⟩ := lowF_spec l0 a1 hs l0.length (l0.length + 1) 0 l0.length (by omega) (by omega) (by omega) (Nat.le_refl _) (fun x hx => by omega) (fun x hx hx2 => by omega)
    have hfi := findI_at l0 a1 r hlo hhi hs
    rw [hfi] at h'
    have HR := Aside0.mk hr
    have HWF := Aside0.mk (show ∀ x ∈ l0, 0 ≤ x.f0 ∧ x.f0 ≤ 4294967295 from fun x hx => by have := upB_mem l0 _ hup x hx; omega)
    have HR0 := Aside0.mk hr0
    have HC0 := Aside0.mk hc0
    have hlen := hr0.2.1
    clear hr hs hlo hhi hfi hup hr0 hc0
    obtain ⟨fs, hu34'⟩ : ∃ fs, Tryd.prog.underlying 34 = some (.struct fs) := ⟨_, rfl⟩
    have hu34 := Aside0.mk hu34'
    clear hu34'
    have hz34 : ∀ w, (zeroValue 34).run Tryd.prog w = .ok (.agg #[.int .u32 0, .int .u32 0, .string ⟨#[]⟩, .bool false, .int .u32 0]) w := fun w => by kernel_rfl
    by_cases hc : r < l0.length ∧ (rd_T34 l0 (r : Int)).f0 = a1
    · rw [if_pos hc] at h'
      simp only [Prod.mk.injEq] at h'
      obtain ⟨e1, e2, e3, e4, e5, e6⟩ := h'
      subst e1 e2 e3 e4 e5 e6
      have EB : Aside0 ((decide (r < l0.length) && ((rd_T34 l0 (r : Int)).f0 == a1)) = true) := ⟨by rw [decide_eq_true hc.1, beq_iff_eq.mpr hc.2]; rfl⟩
      have EBR := EB
      have hrl2 := hc.1
      clear hc
      obtain ⟨ad, e, x0, x1, x2, x3, x4⟩ := at_T34 HR0.out r (by omega) (by omega)
      cases e
      simp only [Int.toNat_natCast] at x0 x1 x2 x3 x4
      generalize rd_T34 l0 (r : Int) = x at EB x0 x1 x2 x3 x4 -- EBR keeps the reading
      have X0 := Aside0.mk x0
      have X1 := Aside0.mk x1
      have X2 := Aside0.mk x2
      have X3 := Aside0.mk x3
      have X4 := Aside0.mk x4
      clear x0 x1 x2 x3 x4
      go_enter Tryd.func51, Tryd.ntmps51
      go_wp2_with (fail)
      go_at_call 62
      refine (bsearch65.calls (l0.length + 1) (some ad) c0 l0 a1 r _ (Kd.C_alloc HR0.out _) HC0.out hl ⟨ha0, ha1⟩ HWF.out HR.out).mono ?_
      rintro e w1 ⟨rfl, hb1⟩
      have x0 := keep_alloc _ _ _ hb1 _ _ X0.out
      have x1 := keep_alloc _ _ _ hb1 _ _ X1.out
      have x2 := keep_alloc _ _ _ hb1 _ _ X2.out
      have x3 := keep_alloc _ _ _ hb1 _ _ X3.out
      have x4 := keep_alloc _ _ _ hb1 _ _ X4.out
      have HZ : Aside0 (w1.heap[w.heap.size]? = some (.cells #[.int .u32 0, .int .u32 0, .string ⟨#[]⟩, .bool false, .int .u32 0] 34 (0, 0))) := ⟨(hb1.block _ (lt_alloc w _)).trans (heap_alloc_new w _)⟩
      have hi34 : Aside0 ((Tryd.prog.info? 34).map (·.size) = some 5) := ⟨by kernel_rfl⟩
      have HB1 := Aside0.mk (below_step (below_alloc (Below.refl w.heap.size w) _) hb1)
      clear hb1
      rw [EBR.out]
      dsimp only
      go_wp2_with ((refine wpList_store_row rfl 34 (.tmp 4) (.tmp 20) rfl w.heap.size #[.int .u32 x.f0, .int .u32 x.f1, .string x.f2, .bool x.f3, .int .u32 x.f4] rfl rfl 34 _ HZ.out hi34.out rfl ?hone ?_; (case hone => simp [Value.oneCell'])))
      refine bodyPost_ret (results_ct rfl _ _ w.heap.size 34 #[.int .u32 x.f0, .int .u32 x.f1, .string x.f2, .bool x.f3, .int .u32 x.f4] (0, 0) (.struct fs) rfl ?h1 hu34.out rfl hi34.out) rfl ⟨?hv, ?h2⟩
      case hv => rfl
      case h1 => exact setRow_heap _ _ _ _ _ _ HZ.out
      case h2 => exact below_setRow HB1.out (Nat.le_refl _) _
    · rw [if_neg hc] at h'
      simp only [Prod.mk.injEq] at h'
      obtain ⟨e1, e2, e3, e4, e5, e6⟩ := h'
      subst e1 e2 e3 e4 e5 e6
      have EBR : Aside0 ((decide (r < l0.length) && ((rd_T34 l0 (r : Int)).f0 == a1)) = false) := ⟨by rw [Bool.and_eq_false_iff]; rw [Classical.not_and_iff_not_or_not] at hc; exact hc.imp (fun h => decide_eq_false h) (fun h => beq_eq_false_iff_ne.mpr h)⟩
      clear hc
      go_enter Tryd.func51, Tryd.ntmps51
      go_wp2_with (fail)
      go_at_call 62
      refine (bsearch65.calls (l0.length + 1) A0 c0 l0 a1 r _ (Kd.C_alloc HR0.out _) HC0.out hl ⟨ha0, ha1⟩ HWF.out HR.out).mono ?_
      rintro e w1 ⟨rfl, hb1⟩
      have HZ : Aside0 (w1.heap[w.heap.size]? = some (.cells #[.int .u32 0, .int .u32 0, .string ⟨#[]⟩, .bool false, .int .u32 0] 34 (0, 0))) := ⟨(hb1.block _ (lt_alloc w _)).trans (heap_alloc_new w _)⟩
      have hi34 : Aside0 ((Tryd.prog.info? 34).map (·.size) = some 5) := ⟨by kernel_rfl⟩
      have HB1 := Aside0.mk (below_step (below_alloc (Below.refl w.heap.size w) _) hb1)
      clear hb1
      rw [EBR.out]
      dsimp only
      go_wp2_with (refine wpList_store_row rfl 34 (.tmp 4) (.tmp 16) rfl w.heap.size #[.int .u32 0, .int .u32 0, .string ⟨#[]⟩, .bool false, .int .u32 0] rfl rfl 34 _ HZ.out hi34.out rfl ?kone ?_; (case kone => simp [Value.oneCell']))
      refine bodyPost_ret (results_ct rfl _ _ w.heap.size 34 #[.int .u32 0, .int .u32 0, .string ⟨#[]⟩, .bool false, .int .u32 0] (0, 0) (.struct fs) rfl ?k1 hu34.out rfl hi34.out) rfl ⟨?kv, ?k2⟩
      case kv => rfl
      case k1 => exact setRow_heap _ _ _ _ _ _ HZ.out
      case k2 => exact below_setRow HB1.out (Nat.le_refl _) _
  · rw [if_neg hd] at h
    cases h
end Go.Proofs.YthbdgahmlggpmaaDoor.Q
