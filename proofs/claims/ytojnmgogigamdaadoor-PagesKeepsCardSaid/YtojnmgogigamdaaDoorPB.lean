/- The plain theory of pages, second part: an object out of its bytes, and its length; no memory, no program. -/
import Derived.Test.YtojnmgogigamdaaDoorPA
namespace Go.Proofs.YtojnmgogigamdaaDoor.Q
open Go.RowKit Go.Proofs.YtojnmgogigamdaaDoorW.PrintWords Go.Proofs.YtojnmgogigamdaaDoorW.PrintLast
set_option linter.unusedVariables false
set_option linter.unusedSimpArgs false

theorem getD_part (f : List Int) (a m i : Nat) (h : i < m) : ((f.drop a).take m).getD i 0 = f.getD (a + i) 0 := by
  simp only [List.getD_eq_getElem?_getD]
  rw [List.getElem?_take, if_pos h, List.getElem?_drop]
theorem part_range {f : List Int} (hf : ∀ x : Nat, 0 ≤ f.getD x 0 ∧ f.getD x 0 ≤ 255) (a m : Nat) : ∀ i : Nat, 0 ≤ ((f.drop a).take m).getD i 0 ∧ ((f.drop a).take m).getD i 0 ≤ 255 := by
  intro i
  rcases Nat.lt_or_ge i m with h | h
  · rw [getD_part f a m i h]
    exact hf _
  · rw [List.getD_eq_getElem?_getD, List.getElem?_take, if_neg (by omega)]
    simp
theorem seg_size {f : List Int} (hf : Flat f) (n : Nat) (hn : n < 32) : (seg f n).size = 32 := by
  unfold seg
  rw [strOfNums_size, List.length_take, List.length_drop, hf.1]
  omega
theorem bt_seg {f : List Int} (hf : Flat f) (n i : Nat) (hn : n < 32) (hi : i < 32) : bt (seg f n) (i : Int) = f.getD (n * 32 + i) 0 := by
  unfold seg
  rw [bt_str _ (part_range hf.2 _ _) i (by rw [List.length_take, List.length_drop, hf.1]; omega), getD_part _ _ _ _ hi]
theorem seg_zero {f : List Int} (hf : Flat f) (n : Nat) (hn : n < 32) : allZ (seg f n) = true ↔ ∀ i : Nat, i < 32 → f.getD (n * 32 + i) 0 = 0 := by
  rw [allZ_iff, seg_size hf n hn]
  constructor
  · intro h i hi
    rw [← bt_seg hf n i hn hi]
    exact h i hi
  · intro h i hi
    rw [bt_seg hf n i hn hi]
    exact h i hi
theorem ba_ext {s t : ByteArray} (hs : s.size = t.size) (h : ∀ i : Nat, i < s.size → bt s i = bt t i) : s = t := by
  apply ByteArray.ext
  apply Array.ext
  · exact hs
  · intro i h1 h2
    have h3 := h i h1
    unfold bt at h3
    rw [dif_pos (by simpa using h1), dif_pos (by simpa using h2)] at h3
    simp only [Int.toNat_natCast] at h3
    have h4 : (s[i]'h1).toNat = (t[i]'h2).toNat := by omega
    exact UInt8.toNat_inj.1 h4
theorem foldN_obj {f : List Int} (hf : Flat f) : ∀ n : Nat, n ≤ 32 → Obj (foldN f n) ∧ ∀ p ∈ foldN f n, p.f0 < n
  | 0, _ => ⟨⟨by simp [foldN], by simp [foldN]⟩, by simp [foldN]⟩
  | n + 1, h => by
    obtain ⟨⟨h1, h2⟩, h3⟩ := foldN_obj hf n (by omega)
    unfold foldN
    split
    · exact ⟨⟨h1, h2⟩, fun p hp => by have := h3 p hp; omega⟩
    · rename_i hz
      refine ⟨⟨fun p hp => ?_, List.pairwise_append.2 ⟨h2, by simp, fun p hp q hq => ?_⟩⟩, fun p hp => ?_⟩
      · rcases List.mem_append.1 hp with hp | hp
        · exact h1 p hp
        · obtain rfl := List.mem_singleton.1 hp
          exact ⟨by simp, by show ((n : Nat) : Int) < 32; omega, seg_size hf n (by omega), by simpa using hz⟩
      · obtain rfl := List.mem_singleton.1 hq
        exact h3 p hp
      · rcases List.mem_append.1 hp with hp | hp
        · have := h3 p hp; omega
        · obtain rfl := List.mem_singleton.1 hp
          show ((n : Nat) : Int) < _
          omega
theorem fold_obj {f : List Int} (hf : Flat f) : Obj (foldL f) := (foldN_obj hf 32 (Nat.le_refl _)).1
theorem findB_snoc (l : List S45) (q : S45) (n : Int) : findB (l ++ [q]) n = (findB l n).or (if q.f0 = n then some q else none) := by
  unfold findB
  rw [List.find?_append]
  by_cases h : q.f0 = n
  · simp [h]
  · simp [h]
theorem findB_foldN {f : List Int} (hf : Flat f) : ∀ n : Nat, n ≤ 32 → ∀ m : Nat, m < n → findB (foldN f n) (m : Int) = if allZ (seg f m) = true then none else some ⟨(m : Int), seg f m⟩
  | 0, _, m, hm => by omega
  | n + 1, h, m, hm => by
    have h3 := (foldN_obj hf n (by omega)).2
    unfold foldN
    rcases Nat.lt_or_ge m n with h1 | h1
    · have ih := findB_foldN hf n (by omega) m h1
      split
      · exact ih
      · rw [findB_snoc, ih, if_neg (show ¬ ((n : Nat) : Int) = (m : Int) by omega)]
        split <;> rfl
    · obtain rfl : m = n := by omega
      have hn : findB (foldN f m) (m : Int) = none := findB_none (fun p hp => by have := h3 p hp; omega)
      split
      · exact hn
      · rw [findB_snoc, hn, if_pos rfl]
        rfl
theorem F_fold {f : List Int} (hf : Flat f) : F (foldL f) = f := by
  apply ext_getD
  · rw [F_length (fold_obj hf), hf.1]
  · intro x hx
    rw [F_length (fold_obj hf)] at hx
    rw [F_get (fold_obj hf) x hx]
    unfold atB foldL
    rw [findB_foldN hf 32 (Nat.le_refl _) (x / 32) (by omega)]
    have e : x / 32 * 32 + x % 32 = x := by omega
    by_cases hz : allZ (seg f (x / 32)) = true
    · rw [if_pos hz]
      have := (seg_zero hf (x / 32) (by omega)).1 hz (x % 32) (by omega)
      rw [e] at this
      exact this.symm
    · rw [if_neg hz]
      have := bt_seg hf (x / 32) (x % 32) (by omega) (by omega)
      rw [e] at this
      exact this
theorem seg_F {l : List S45} (h : Obj l) (n : Nat) (hn : n < 32) {p : S45} (hp : findB l (n : Int) = some p) : seg (F l) n = p.f1 := by
  have hg := h.1 p (findB_some hp).1
  apply ba_ext
  · rw [seg_size (flat_F h) n hn, hg.2.2.1]
  · intro i hi
    rw [seg_size (flat_F h) n hn] at hi
    rw [bt_seg (flat_F h) n i hn hi, F_get h _ (by omega)]
    unfold atB
    rw [show (n * 32 + i) / 32 = n by omega, show (n * 32 + i) % 32 = i by omega, hp]
theorem seg_F_none {l : List S45} (h : Obj l) (n : Nat) (hn : n < 32) (hp : findB l (n : Int) = none) : allZ (seg (F l) n) = true := by
  rw [seg_zero (flat_F h) n hn]
  intro i hi
  rw [F_get h _ (by omega)]
  unfold atB
  rw [show (n * 32 + i) / 32 = n by omega, hp]
theorem filter_step : ∀ (l : List S45) (n : Int), Obj l → l.filter (fun p => decide (p.f0 < n + 1)) = l.filter (fun p => decide (p.f0 < n)) ++ (findB l n).toList
  | [], n, _ => rfl
  | p :: t, n, h => by
    have hl := h.lt
    rw [List.filter_cons, List.filter_cons, findB_cons]
    by_cases h1 : p.f0 < n
    · rw [if_pos (by simp; omega), if_pos (by simp; omega), if_neg (by omega), filter_step t n h.tail]
      rfl
    · by_cases h2 : p.f0 = n
      · rw [if_pos (by simp; omega), if_neg (by simp; omega), if_pos h2]
        have e1 : t.filter (fun p => decide (p.f0 < n + 1)) = [] := List.filter_eq_nil_iff.2 (fun q hq => by have := hl q hq; simp; omega)
        have e2 : t.filter (fun p => decide (p.f0 < n)) = [] := List.filter_eq_nil_iff.2 (fun q hq => by have := hl q hq; simp; omega)
        rw [e1, e2]
        rfl
      · rw [if_neg (by simp; omega), if_neg (by simp; omega), if_neg h2, filter_step t n h.tail]
theorem foldN_F {l : List S45} (h : Obj l) : ∀ n : Nat, n ≤ 32 → foldN (F l) n = l.filter (fun p => decide (p.f0 < (n : Int)))
  | 0, _ => by
    symm
    show _ = []
    exact List.filter_eq_nil_iff.2 (fun q hq => by have := (h.1 q hq).1; simp; omega)
  | n + 1, hn => by
    have e : ((n + 1 : Nat) : Int) = (n : Int) + 1 := by omega
    unfold foldN
    rw [e, filter_step l (n : Int) h, ← foldN_F h n (by omega)]
    cases hp : findB l (n : Int) with
    | none =>
      rw [if_pos (seg_F_none h n (by omega) hp)]
      simp
    | some p =>
      have hs := seg_F h n (by omega) hp
      have hg := h.1 p (findB_some hp).1
      rw [hs, if_neg (by rw [hg.2.2.2]; simp)]
      have hf0 := (findB_some hp).2
      have : (⟨(n : Int), p.f1⟩ : S45) = p := by cases p; simp at hf0; simp [hf0]
      rw [this]
      rfl
theorem fold_F {l : List S45} (h : Obj l) : foldL (F l) = l := by
  unfold foldL
  rw [foldN_F h 32 (Nat.le_refl _)]
  exact List.filter_eq_self.2 (fun p hp => by have := (h.1 p hp).2.1; simp; omega)

/-! ### The length -/
def Ends (f : List Int) (n : Nat) : Prop := n ≤ 1024 ∧ (∀ x : Nat, n ≤ x → x < 1024 → f.getD x 0 = 0) ∧ (0 < n → f.getD (n - 1) 0 ≠ 0)
theorem Ends.unique {f : List Int} {n m : Nat} (h : Ends f n) (k : Ends f m) : n = m := by
  rcases Nat.lt_trichotomy n m with h1 | h1 | h1
  · exact absurd (h.2.1 (m - 1) (by omega) (by have := k.1; omega)) (k.2.2 (by omega))
  · exact h1
  · exact absurd (k.2.1 (n - 1) (by omega) (by have := h.1; omega)) (h.2.2 (by omega))
def lenB (l : List S45) : Nat := match l.getLast? with
  | none => 0
  | some p => p.f0.toNat * 32 + rlen p.f1
theorem last_max : ∀ (l : List S45) (p : S45), Obj l → l.getLast? = some p → p ∈ l ∧ ∀ q ∈ l, q.f0 ≤ p.f0
  | [], p, _, h => by cases h
  | [q], p, _, h => by
    simp at h
    subst h
    simp
  | q :: r :: t, p, h, hp => by
    have h1 := last_max (r :: t) p h.tail (by simpa [List.getLast?_cons_cons] using hp)
    refine ⟨by simp [h1.1], fun s hs => ?_⟩
    rcases List.mem_cons.1 hs with rfl | hs
    · have := h.lt p h1.1; omega
    · exact h1.2 s hs
theorem findB_mem {l : List S45} (h : Obj l) {p : S45} (hp : p ∈ l) : findB l p.f0 = some p := by
  induction l with
  | nil => cases hp
  | cons q t ih =>
    rw [findB_cons]
    rcases List.mem_cons.1 hp with rfl | hp
    · rw [if_pos rfl]
    · rw [if_neg (by have := h.lt p hp; omega)]
      exact ih h.tail hp
theorem ends_F {l : List S45} (h : Obj l) : Ends (F l) (lenB l) := by
  unfold lenB
  cases hl : l.getLast? with
  | none =>
    have : l = [] := by simpa using hl
    subst this
    show Ends (F []) 0
    exact ⟨by omega, fun x _ hx => by rw [F_get h x hx]; rfl, fun h => by omega⟩
  | some p =>
    obtain ⟨hp, hm⟩ := last_max l p h hl
    have hg := h.1 p hp
    have hr : rlen p.f1 ≤ p.f1.size := rlenN_le _ _
    have h32 := hg.2.2.1
    have hpos : 0 < rlen p.f1 := by
      have := hg.2.2.2
      unfold allZ at this
      have h2 : rlen p.f1 ≠ 0 := by simpa using this
      omega
    have h0 := hg.1
    have h1 := hg.2.1
    show Ends (F l) (p.f0.toNat * 32 + rlen p.f1)
    refine ⟨by omega, fun x hx hx2 => ?_, fun _ => ?_⟩
    · rw [F_get h x hx2]
      unfold atB
      cases hq : findB l ((x / 32 : Nat) : Int) with
      | none => rfl
      | some q =>
        obtain ⟨hq1, hq2⟩ := findB_some hq
        have := hm q hq1
        have e : q.f0 = p.f0 := by omega
        have : q = p := by
          have h3 := findB_mem h hq1
          rw [e, findB_mem h hp] at h3
          exact (Option.some.inj h3).symm
        subst this
        exact rlenN_zero q.f1 q.f1.size _ (by unfold rlen at hx; omega) (by omega)
    · have hl := rlenN_last p.f1 p.f1.size hpos
      rw [F_get h _ (by omega)]
      unfold atB
      have e1 : ((((p.f0.toNat * 32 + rlen p.f1 - 1) / 32 : Nat)) : Int) = p.f0 := by omega
      rw [e1, findB_mem h hp]
      have e2 : (p.f0.toNat * 32 + rlen p.f1 - 1) % 32 = rlen p.f1 - 1 := by omega
      rw [e2]
      exact hl
end Go.Proofs.YtojnmgogigamdaaDoor.Q
