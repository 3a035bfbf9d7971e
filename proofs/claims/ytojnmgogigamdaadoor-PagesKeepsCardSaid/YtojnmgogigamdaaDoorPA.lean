/- The plain theory of pages: what Right says, an object's bytes as one list, and back; no memory, no program. -/
import Derived.Test.YtojnmgogigamdaaDoorQ4
import Derived.Test.YtojnmgogigamdaaDoorQ5
import Derived.Test.YtojnmgogigamdaaDoorQ5
import Derived.Test.YtojnmgogigamdaaDoorH2
namespace Go.Proofs.YtojnmgogigamdaaDoor.Q
open Go.RowKit Go.Proofs.YtojnmgogigamdaaDoorW.PrintWords Go.Proofs.YtojnmgogigamdaaDoorW.PrintLast
set_option linter.unusedVariables false
set_option linter.unusedSimpArgs false

theorem wrap_in {i : Int} (h0 : -9223372036854775808 ≤ i) (h : i ≤ 9223372036854775807) : wrap64 i = i := by unfold wrap64; omega
theorem drop45 (l : List S45) (i : Nat) (h : i < l.length) : l.drop i = rd_T45 l (i : Int) :: l.drop (i + 1) := by
  rw [List.drop_eq_getElem_cons h]
  simp [rd_T45, List.getD_eq_getElem?_getD, List.getElem?_eq_getElem h]
/-! ### allZ -/
theorem allZ_iff (s : ByteArray) : allZ s = true ↔ ∀ i : Nat, i < s.size → bt s i = 0 := by
  unfold allZ rlen
  constructor
  · intro h i hi
    have h0 : rlenN s s.size = 0 := by simpa using h
    exact rlenN_zero s s.size i (by omega) hi
  · intro h
    rcases Nat.eq_zero_or_pos (rlenN s s.size) with h0 | h0
    · simp [h0]
    · have h1 := rlenN_last s s.size h0
      have h2 := rlenN_le s s.size
      exact absurd (h (rlenN s s.size - 1) (by omega)) h1
theorem allZ_false (s : ByteArray) : allZ s = false ↔ ∃ i : Nat, i < s.size ∧ bt s i ≠ 0 := by
  constructor
  · intro h
    apply Classical.byContradiction
    intro hn
    have : allZ s = true := (allZ_iff s).2 fun i hi => Classical.byContradiction fun hc => hn ⟨i, hi, hc⟩
    rw [h] at this
    cases this
  · intro ⟨i, hi, hb⟩
    cases h : allZ s with
    | false => rfl
    | true => exact absurd ((allZ_iff s).1 h i hi) hb

/-! ### Right -/
def okF : Int → List S45 → Bool
  | _, [] => true
  | last, p :: t => if p.f0 ≤ last then false else if p.f0 ≥ 32 then false else if p.f1.size = 32 then (if allZ p.f1 = true then false else okF p.f0 t) else false
theorem right_loop (l : List S45) (hl : l.length ≤ maxLen) : ∀ (d k : Nat) (last : Int) (i : Nat), i + d = l.length → d < k → pages_Right.l0 k last l (l.length : Int) (i : Int) = some (okF last (l.drop i)) := by
  unfold maxLen at hl
  intro d
  induction d with
  | zero =>
    intro k last i hi hk
    obtain ⟨k, rfl⟩ : ∃ m, k = m + 1 := ⟨k - 1, by omega⟩
    simp only [pages_Right.l0]
    rw [if_neg (by omega), List.drop_eq_nil_of_le (by omega)]
    rfl
  | succ d ih =>
    intro k last i hi hk
    obtain ⟨k, rfl⟩ : ∃ m, k = m + 1 := ⟨k - 1, by omega⟩
    simp only [pages_Right.l0]
    rw [if_pos (by omega), if_pos (by omega), if_pos (by omega), drop45 l i (by omega)]
    simp only [okF]
    by_cases h1 : (rd_T45 l (i : Int)).f0 ≤ last
    · rw [if_pos h1, if_pos h1]
    rw [if_neg h1, if_neg h1]
    by_cases h2 : (rd_T45 l (i : Int)).f0 ≥ 32
    · rw [if_pos h2, if_pos h2]
    rw [if_neg h2, if_neg h2]
    by_cases h3 : (rd_T45 l (i : Int)).f1.size = 32
    · rw [if_pos (by omega), if_pos h3]
      unfold pages_noughts.f
      rw [if_pos (by omega)]
      simp only [Option.bind_some]
      by_cases h4 : allZ (rd_T45 l (i : Int)).f1 = true
      · rw [if_pos h4, if_pos h4]
      · rw [if_neg h4, if_neg h4, wrap_in (by omega) (by omega)]
        exact ih k _ (i + 1) (by omega) (by omega)
    · rw [if_neg (by omega), if_neg h3]
theorem right_f (l : List S45) (hl : l.length ≤ maxLen) {k : Nat} (hk : l.length < k) : pages_Right.f k l = some (okF (-1) l) := right_loop l hl l.length k (-1) 0 (by omega) hk
def good (p : S45) : Prop := 0 ≤ p.f0 ∧ p.f0 < 32 ∧ p.f1.size = 32 ∧ allZ p.f1 = false
def Obj (l : List S45) : Prop := (∀ p ∈ l, good p) ∧ l.Pairwise (fun p q => p.f0 < q.f0)
theorem okF_iff : ∀ (l : List S45) (last : Int), -1 ≤ last → (okF last l = true ↔ (∀ p ∈ l, last < p.f0) ∧ Obj l)
  | [], last, _ => by simp [okF, Obj]
  | p :: t, last, h => by
    simp only [okF]
    by_cases h1 : p.f0 ≤ last
    · rw [if_pos h1]
      constructor
      · intro h; cases h
      · intro ⟨h2, _⟩
        have := h2 p (by simp)
        omega
    rw [if_neg h1]
    by_cases h2 : p.f0 ≥ 32
    · rw [if_pos h2]
      constructor
      · intro h; cases h
      · intro ⟨_, h3, _⟩
        have := (h3 p (by simp)).2.1
        omega
    rw [if_neg h2]
    by_cases h3 : p.f1.size = 32
    · rw [if_pos h3]
      by_cases h4 : allZ p.f1 = true
      · rw [if_pos h4]
        constructor
        · intro h; cases h
        · intro ⟨_, h5, _⟩
          have := (h5 p (by simp)).2.2.2
          rw [h4] at this
          cases this
      · rw [if_neg h4, okF_iff t p.f0 (by omega)]
        constructor
        · intro ⟨ha, hg, hp⟩
          refine ⟨?_, ?_, ?_⟩
          · intro q hq
            rcases List.mem_cons.1 hq with rfl | hq
            · omega
            · have := ha q hq; omega
          · intro q hq
            rcases List.mem_cons.1 hq with rfl | hq
            · exact ⟨by omega, by omega, h3, by simpa using h4⟩
            · exact hg q hq
          · exact List.pairwise_cons.2 ⟨ha, hp⟩
        · intro ⟨ha, hg, hp⟩
          have hp' := List.pairwise_cons.1 hp
          exact ⟨hp'.1, fun q hq => hg q (by simp [hq]), hp'.2⟩
    · rw [if_neg h3]
      constructor
      · intro h; cases h
      · intro ⟨_, h5, _⟩
        exact absurd (h5 p (by simp)).2.2.1 h3
theorem ok_obj (l : List S45) : okF (-1) l = true ↔ Obj l := by
  rw [okF_iff l (-1) (by omega)]
  exact ⟨fun h => h.2, fun h => ⟨fun p hp => by have := (h.1 p hp).1; omega, h⟩⟩
theorem Obj.fit {l : List S45} (h : Obj l) : fitL l := fun p hp => ⟨(h.1 p hp).1, (h.1 p hp).2.1, (h.1 p hp).2.2.1⟩
theorem Obj.tail {p : S45} {l : List S45} (h : Obj (p :: l)) : Obj l := ⟨fun q hq => h.1 q (by simp [hq]), (List.pairwise_cons.1 h.2).2⟩
theorem Obj.head {p : S45} {l : List S45} (h : Obj (p :: l)) : good p := h.1 p (by simp)
theorem Obj.lt {p : S45} {l : List S45} (h : Obj (p :: l)) : ∀ q ∈ l, p.f0 < q.f0 := (List.pairwise_cons.1 h.2).1
theorem obj_len : ∀ (l : List S45) (m : Int), Obj l → (∀ p ∈ l, m ≤ p.f0) → 0 ≤ m → m ≤ 32 → (l.length : Int) ≤ 32 - m
  | [], m, _, _, _, _ => by simp; omega
  | p :: t, m, h, hm, h0, h1 => by
    have := obj_len t (p.f0 + 1) h.tail (fun q hq => by have := h.lt q hq; omega) (by have := h.head.1; omega) (by have := h.head.2.1; omega)
    have h2 := hm p (by simp)
    simp
    omega
theorem Obj.length {l : List S45} (h : Obj l) : l.length ≤ 32 := by
  have := obj_len l 0 h (fun p hp => (h.1 p hp).1) (by omega) (by omega)
  omega

/-! ### The bytes as one list -/
def findB (l : List S45) (n : Int) : Option S45 := l.find? (fun p => p.f0 == n)
def atB (l : List S45) (x : Nat) : Int := match findB l ((x / 32 : Nat) : Int) with
  | some p => bt p.f1 ((x % 32 : Nat) : Int)
  | none => 0
theorem findB_cons (p : S45) (l : List S45) (n : Int) : findB (p :: l) n = if p.f0 = n then some p else findB l n := by
  unfold findB
  rw [List.find?_cons]
  by_cases h : p.f0 = n
  · rw [if_pos h, beq_iff_eq.mpr h]
  · rw [if_neg h, beq_eq_false_iff_ne.mpr h]
theorem findB_none {l : List S45} {n : Int} (h : ∀ p ∈ l, p.f0 ≠ n) : findB l n = none := by
  unfold findB
  rw [List.find?_eq_none]
  intro p hp
  simp [h p hp]
theorem findB_some {l : List S45} {n : Int} {p : S45} (h : findB l n = some p) : p ∈ l ∧ p.f0 = n := by
  unfold findB at h
  exact ⟨List.mem_of_find?_eq_some h, by have := List.find?_some h; simpa using this⟩
theorem splice_getD (f : List Int) (off : Nat) (cs : List Int) (h : off + cs.length ≤ f.length) (x : Nat) : (splice f off cs).getD x 0 = if off ≤ x ∧ x < off + cs.length then cs.getD (x - off) 0 else f.getD x 0 := by
  unfold splice
  simp only [List.getD_eq_getElem?_getD]
  rcases Nat.lt_or_ge x off with h1 | h1
  · rw [if_neg (by omega), List.getElem?_append_left (by simp; omega), List.getElem?_take, if_pos h1]
  · rw [List.getElem?_append_right (by simp; omega)]
    have hl : (List.take off f).length = off := by simp; omega
    rw [hl]
    rcases Nat.lt_or_ge x (off + cs.length) with h2 | h2
    · rw [if_pos ⟨h1, h2⟩, List.getElem?_append_left (by omega)]
    · rw [if_neg (by omega), List.getElem?_append_right (by omega), List.getElem?_drop]
      congr 2
      omega
theorem getD_bytes (s : ByteArray) (i : Nat) : (bytesOf s).getD i 0 = bt s i := by
  have := rd_bytesOf s i
  unfold rd at this
  simpa using this
theorem spread_get : ∀ (l : List S45) (f : List Int) (x : Nat), Obj l → f.length = 1024 → x < 1024 → (spreadL l f).getD x 0 = match findB l ((x / 32 : Nat) : Int) with
    | some p => bt p.f1 ((x % 32 : Nat) : Int)
    | none => f.getD x 0
  | [], f, x, _, _, _ => rfl
  | p :: t, f, x, h, hf, hx => by
    have hg := h.head
    have hfit : p.f0.toNat * 32 + (bytesOf p.f1).length ≤ f.length := by rw [bytesOf_length, hf]; have := hg.1; have := hg.2.1; have := hg.2.2.1; omega
    show (spreadL t (splice f (p.f0.toNat * 32) (bytesOf p.f1))).getD x 0 = _
    rw [spread_get t _ x h.tail (by rw [splice_length _ _ _ hfit]; exact hf) hx, findB_cons]
    have hsz := hg.2.2.1
    have h0 := hg.1
    by_cases hp : p.f0 = ((x / 32 : Nat) : Int)
    · rw [if_pos hp, findB_none (fun q hq => by have := h.lt q hq; omega)]
      simp only
      rw [splice_getD _ _ _ hfit, if_pos (by rw [bytesOf_length]; omega), getD_bytes]
      congr 1
      omega
    · rw [if_neg hp]
      cases hq : findB t ((x / 32 : Nat) : Int) with
      | some q => rfl
      | none =>
        simp only
        rw [splice_getD _ _ _ hfit, if_neg (by rw [bytesOf_length]; omega)]
theorem zl_length : zl.length = 1024 := List.length_replicate ..
def F (l : List S45) : List Int := spreadL l zl
theorem F_length {l : List S45} (h : Obj l) : (F l).length = 1024 := spreadL_length l zl h.fit zl_length
theorem zl_get (x : Nat) : zl.getD x 0 = 0 := by
  rw [List.getD_eq_getElem?_getD]
  rcases Nat.lt_or_ge x 1024 with h | h
  · have h' : x < zl.length := by rw [zl_length]; exact h
    rw [List.getElem?_eq_getElem h']
    exact List.eq_of_mem_replicate (List.getElem_mem h')
  · rw [List.getElem?_eq_none (by rw [zl_length]; exact h)]; rfl
theorem F_get {l : List S45} (h : Obj l) (x : Nat) (hx : x < 1024) : (F l).getD x 0 = atB l x := by
  unfold F atB
  rw [spread_get l zl x h zl_length hx]
  cases findB l ((x / 32 : Nat) : Int) with
  | some p => rfl
  | none => exact zl_get x
/-- A list of 1024 bytes. -/
def Flat (f : List Int) : Prop := f.length = 1024 ∧ ∀ x : Nat, 0 ≤ f.getD x 0 ∧ f.getD x 0 ≤ 255
theorem flat_F {l : List S45} (h : Obj l) : Flat (F l) := by
  refine ⟨F_length h, fun x => ?_⟩
  rcases Nat.lt_or_ge x 1024 with hx | hx
  · rw [F_get h x hx]
    unfold atB
    split
    · exact bt_range _ _
    · omega
  · rw [List.getD_eq_getElem?_getD, List.getElem?_eq_none (by rw [F_length h]; exact hx)]
    simp
theorem ext_getD {f g : List Int} (hl : f.length = g.length) (h : ∀ x : Nat, x < f.length → f.getD x 0 = g.getD x 0) : f = g := by
  apply List.ext_getElem hl
  intro i h1 h2
  have := h i h1
  simpa [List.getD_eq_getElem?_getD, List.getElem?_eq_getElem h1, List.getElem?_eq_getElem h2] using this
theorem bt_str (xs : List Int) (hx : ∀ i : Nat, 0 ≤ xs.getD i 0 ∧ xs.getD i 0 ≤ 255) (i : Nat) (hi : i < xs.length) : bt (strOfNums xs) (i : Int) = xs.getD i 0 := by
  have hs := strOfNums_size xs
  unfold bt
  rw [dif_pos (by rw [hs]; simpa using hi)]
  have := hx i
  simp only [strOfNums, List.getD_eq_getElem?_getD, List.getElem?_eq_getElem hi, Option.getD_some] at this ⊢
  simp only [Int.toNat_natCast]
  show (((List.map (fun n : Int => UInt8.ofNat n.toNat) xs).toArray[i]'(by simpa using hi)).toNat : Int) = _
  simp
  omega
theorem str_bytes (s : ByteArray) : strOfNums (bytesOf s) = s := by
  unfold strOfNums bytesOf
  apply ByteArray.ext
  apply Array.ext'
  simp only [List.map_map]
  conv => rhs; rw [← List.map_id s.data.toList]
  apply List.map_congr_left
  intro b _
  simp
end Go.Proofs.YtojnmgogigamdaaDoor.Q
