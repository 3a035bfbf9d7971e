/- The plain theory of pages, fourth part: what the document's functions answer with enough rounds. -/
import Derived.Test.YtojnmgogigamdaaDoorPC
import Derived.Test.YtojnmgogigamdaaDoorH4
import Derived.Test.YtojnmgogigamdaaDoorQ7
import Derived.Test.YtojnmgogigamdaaDoorQ6
import Derived.Test.YtojnmgogigamdaaDoorQ8
import Derived.Test.YtojnmgogigamdaaDoorQ11
import Derived.Test.YtojnmgogigamdaaDoorQ12
namespace Go.Proofs.YtojnmgogigamdaaDoor.Q
open Go.RowKit Go.Proofs.YtojnmgogigamdaaDoorW.PrintWords Go.Proofs.YtojnmgogigamdaaDoorW.PrintLast
set_option linter.unusedVariables false
set_option linter.unusedSimpArgs false
theorem refin_f (a b : Int) : r7_In.f a b = some (inB a b) := by
  unfold r7_In.f inB
  by_cases h1 : a ≥ 0
  · by_cases h3 : a ≤ 1024
    · by_cases h2 : b ≥ 0
      · rw [if_pos h1, if_pos h3, if_pos h2, wrap_in (by omega) (by omega)]
        congr 1
        apply decide_eq_decide.2
        omega
      · rw [if_pos h1, if_pos h3, if_neg h2, decide_eq_false (by omega)]
    · rw [if_pos h1, if_neg h3, decide_eq_false (by omega)]
  · rw [if_neg h1, decide_eq_false (by omega)]
/-! ### Noughts, Right -/
theorem refnoughts_loop (s : ByteArray) (hs : s.size ≤ 4096) : ∀ (d k i : Nat), i + d = s.size → d < k → (∀ j : Nat, j < i → bt s j = 0) → r7_Noughts.l0 k s (i : Int) = some (allZ s) := by
  intro d
  induction d with
  | zero =>
    intro k i hi hk h
    obtain ⟨k, rfl⟩ : ∃ m, k = m + 1 := ⟨k - 1, by omega⟩
    simp only [r7_Noughts.l0]
    rw [if_neg (by omega), (allZ_iff s).2 (fun j hj => h j (by omega))]
  | succ d ih =>
    intro k i hi hk h
    obtain ⟨k, rfl⟩ : ∃ m, k = m + 1 := ⟨k - 1, by omega⟩
    simp only [r7_Noughts.l0]
    rw [if_pos (by omega), if_pos (by omega)]
    by_cases hz : bt s (i : Int) = 0
    · rw [if_pos hz, wrap_in (by omega) (by omega)]
      refine ih k (i + 1) (by omega) (by omega) (fun j hj => ?_)
      rcases Nat.lt_or_ge j i with h1 | h1
      · exact h j h1
      · obtain rfl : j = i := by omega
        exact hz
    · rw [if_neg hz, (allZ_false s).2 ⟨i, by omega, hz⟩]
theorem refnoughts_k {s : ByteArray} (hs : s.size ≤ 64) {k : Nat} (hk : 64 < k) : r7_Noughts.f k s = some (allZ s) := refnoughts_loop s (by omega) s.size k 0 (by omega) (by omega) (fun j hj => by omega)
theorem refright_loop (l : List S45) (hl : l.length ≤ 200) : ∀ (d k i : Nat) (last : Int), i + d = l.length → d + 64 < k → (i = 0 → last = -1) → (0 < i → last = (rd_T45 l ((i - 1 : Nat) : Int)).f0 ∧ 0 ≤ last) → r7_Right.l0 k l (i : Int) = some (okF last (l.drop i)) := by
  intro d
  induction d with
  | zero =>
    intro k i last hi hk h0 h1
    obtain ⟨k, rfl⟩ : ∃ m, k = m + 1 := ⟨k - 1, by omega⟩
    simp only [r7_Right.l0]
    rw [if_neg (by omega), List.drop_eq_nil_of_le (by omega)]
    rfl
  | succ d ih =>
    intro k i last hi hk h0 h1
    obtain ⟨k, rfl⟩ : ∃ m, k = m + 1 := ⟨k - 1, by omega⟩
    simp only [r7_Right.l0]
    rw [if_pos (by omega), if_pos (by omega), drop45 l i (by omega)]
    simp only [okF]
    have hlast : -1 ≤ last := by
      rcases Nat.eq_zero_or_pos i with h | h
      · have := h0 h; omega
      · have := (h1 h).2; omega
    by_cases c1 : (rd_T45 l (i : Int)).f0 < 0
    · rw [if_pos c1, if_pos (by omega)]
    rw [if_neg c1]
    by_cases c2 : (rd_T45 l (i : Int)).f0 > 31
    · rw [if_pos c2]
      by_cases c3 : (rd_T45 l (i : Int)).f0 ≤ last
      · rw [if_pos c3]
      · rw [if_neg c3, if_pos (by omega)]
    rw [if_neg c2]
    by_cases c4 : (rd_T45 l (i : Int)).f1.size = 32
    · rw [if_pos (by omega), refnoughts_k (by omega) (by omega)]
      simp only [Option.bind_some]
      by_cases c5 : allZ (rd_T45 l (i : Int)).f1 = true
      · rw [if_pos c5]
        by_cases c3 : (rd_T45 l (i : Int)).f0 ≤ last
        · rw [if_pos c3]
        · rw [if_neg c3, if_neg (by omega), if_pos c4, if_pos c5]
      · rw [if_neg c5]
        have next : r7_Right.l0 k l (wrap64 ((i : Int) + 1)) = some (okF (rd_T45 l (i : Int)).f0 (l.drop (i + 1))) := by
          rw [wrap_in (by omega) (by omega)]
          exact ih k (i + 1) _ (by omega) (by omega) (fun h => by omega) (fun _ => ⟨by rw [Nat.add_sub_cancel], by omega⟩)
        rw [next]
        by_cases ci : (i : Int) > 0
        · obtain ⟨e1, e2⟩ := h1 (by omega)
          have ew : wrap64 ((i : Int) - 1) = ((i - 1 : Nat) : Int) := by rw [wrap_in (by omega) (by omega)]; omega
          rw [if_pos ci, ew, if_pos (by omega), if_pos (by omega), ← e1]
          by_cases c3 : (rd_T45 l (i : Int)).f0 ≤ last
          · rw [if_pos c3, if_pos (by omega)]
          · rw [if_neg c3, if_neg (by omega), if_neg (by omega), if_pos c4, if_neg c5]
        · have := h0 (by omega)
          rw [if_neg ci, if_neg (by omega), if_neg (by omega), if_pos c4, if_neg c5]
    · rw [if_neg (by omega)]
      by_cases c3 : (rd_T45 l (i : Int)).f0 ≤ last
      · rw [if_pos c3]
      · rw [if_neg c3, if_neg (by omega), if_neg c4]
theorem refright_k {l : List S45} (h : l.length ≤ 200) {k : Nat} (hk : 300 < k) : r7_Right.f k l = some (okF (-1) l) := refright_loop l h l.length k 0 (-1) (by omega) (by omega) (fun _ => rfl) (fun h => by omega)
/-! ### At, Bytes -/
theorem at_loop (l : List S45) (hl : l.length ≤ 200) (hf : fitL l) (x : Nat) (hx : x < 1024) : ∀ (d k i : Nat), i + d = l.length → d < k → (∀ j : Nat, j < i → (rd_T45 l j).f0 ≠ ((x / 32 : Nat) : Int)) → r7_At.l0 k l (x : Int) (i : Int) = some (match findB (l.drop i) ((x / 32 : Nat) : Int) with
    | some p => bt p.f1 ((x % 32 : Nat) : Int)
    | none => 0) := by
  intro d
  have e1 : wrap64 (Int.tdiv (x : Int) 32) = ((x / 32 : Nat) : Int) := by
    rw [Int.tdiv_eq_ediv_of_nonneg (by omega), wrap_in (by omega) (by omega)]
    omega
  have e2 : Int.tmod (x : Int) 32 = ((x % 32 : Nat) : Int) := by
    rw [Int.tmod_eq_emod_of_nonneg (by omega)]
    omega
  induction d with
  | zero =>
    intro k i hi hk h
    obtain ⟨k, rfl⟩ : ∃ m, k = m + 1 := ⟨k - 1, by omega⟩
    simp only [r7_At.l0]
    rw [if_neg (by omega), List.drop_eq_nil_of_le (by omega)]
    rfl
  | succ d ih =>
    intro k i hi hk h
    obtain ⟨k, rfl⟩ : ∃ m, k = m + 1 := ⟨k - 1, by omega⟩
    simp only [r7_At.l0, e1, e2]
    rw [if_pos (by omega), if_pos (by omega), drop45 l i (by omega), findB_cons]
    have hg := hf _ (rd_T45_mem l i (by omega))
    by_cases hz : (rd_T45 l (i : Int)).f0 = ((x / 32 : Nat) : Int)
    · rw [if_pos hz, if_pos hz, if_pos (by omega), if_pos (by have := hg.2.2; omega)]
    · rw [if_neg hz, if_neg hz, wrap_in (by omega) (by omega)]
      refine ih k (i + 1) (by omega) (by omega) (fun j hj => ?_)
      rcases Nat.lt_or_ge j i with h1 | h1
      · exact h j h1
      · obtain rfl : j = i := by omega
        exact hz
theorem at_k {l : List S45} (h : Obj l) {x : Nat} (hx : x < 1024) {k : Nat} (hk : 64 < k) : r7_At.f k l (x : Int) = some ((F l).getD x 0) := by
  rw [F_get h x hx]
  exact at_loop l (by have := h.length; omega) h.fit x hx l.length k 0 (by omega) (by have := h.length; omega) (fun j hj => by omega)
theorem take_snoc_getD (f : List Int) (a i : Nat) (h : a + i < f.length) : (f.drop a).take (i + 1) = (f.drop a).take i ++ [f.getD (a + i) 0] := by
  rw [List.take_succ_eq_append_getElem (by rw [List.length_drop]; omega)]
  simp [List.getD_eq_getElem?_getD, h]
theorem bytes_loop {l : List S45} (h : Obj l) (a m : Nat) (ha : a + m ≤ 1024) : ∀ (d k i : Nat), i + d = m → d + 64 < k → r7_Bytes.l0 k l (a : Int) (m : Int) (((F l).drop a).take i) (i : Int) = some (strOfNums (((F l).drop a).take m)) := by
  intro d
  induction d with
  | zero =>
    intro k i hi hk
    obtain ⟨k, rfl⟩ : ∃ m, k = m + 1 := ⟨k - 1, by omega⟩
    obtain rfl : i = m := by omega
    simp only [r7_Bytes.l0]
    rw [if_neg (by omega)]
  | succ d ih =>
    intro k i hi hk
    obtain ⟨k, rfl⟩ : ∃ m, k = m + 1 := ⟨k - 1, by omega⟩
    simp only [r7_Bytes.l0]
    have e : wrap64 ((a : Int) + (i : Int)) = ((a + i : Nat) : Int) := by rw [wrap_in (by omega) (by omega)]; omega
    rw [if_pos (by omega), e, at_k h (by omega) (by omega)]
    simp only [Option.bind_some]
    rw [if_pos (by rw [List.length_take]; omega), wrap_in (by omega) (by omega), ← take_snoc_getD _ _ _ (by rw [F_length h]; omega)]
    exact ih k (i + 1) (by omega) (by omega)
theorem refbytes_k {l : List S45} (h : Obj l) {a m : Int} (ha : inB a m = true) {k : Nat} (hk : 1100 < k) : r7_Bytes.f k l a m = some (strOfNums (((F l).drop a.toNat).take m.toNat)) := by
  obtain ⟨h1, h2, h3, h4⟩ := inB_iff.1 ha
  obtain ⟨p, rfl⟩ := Int.eq_ofNat_of_zero_le h1
  obtain ⟨q, rfl⟩ := Int.eq_ofNat_of_zero_le h2
  have := bytes_loop h p q (by omega) q k 0 (by omega) (by omega)
  unfold r7_Bytes.f
  simpa using this
theorem reflength_loop {l : List S45} (h : Obj l) : ∀ (n k : Nat), n ≤ 1024 → n + 70 < k → (∀ x : Nat, n ≤ x → x < 1024 → (F l).getD x 0 = 0) → r7_Length.l0 k l (n : Int) = some (lenB l : Int) := by
  intro n
  induction n with
  | zero =>
    intro k _ hk hz
    obtain ⟨k, rfl⟩ : ∃ m, k = m + 1 := ⟨k - 1, by omega⟩
    simp only [r7_Length.l0]
    have : Ends (F l) 0 := ⟨by omega, fun x hx hx2 => hz x hx hx2, fun h => by omega⟩
    rw [if_neg (by omega), this.unique (ends_F h)]
  | succ n ih =>
    intro k hn hk hz
    obtain ⟨k, rfl⟩ : ∃ m, k = m + 1 := ⟨k - 1, by omega⟩
    simp only [r7_Length.l0]
    have e : wrap64 (((n + 1 : Nat) : Int) - 1) = (n : Int) := by rw [wrap_in (by omega) (by omega)]; omega
    rw [if_pos (by omega), e, at_k h (by omega) (by omega)]
    simp only [Option.bind_some]
    by_cases hc : (F l).getD n 0 = 0
    · rw [if_pos hc]
      refine ih k (by omega) (by omega) (fun x hx hx2 => ?_)
      rcases Nat.lt_or_ge n x with h1 | h1
      · exact hz x h1 hx2
      · obtain rfl : x = n := by omega
        exact hc
    · rw [if_neg hc]
      have : Ends (F l) (n + 1) := ⟨hn, hz, fun _ => by simpa using hc⟩
      rw [this.unique (ends_F h)]
theorem reflength_k {l : List S45} (h : Obj l) {k : Nat} (hk : 1100 < k) : r7_Length.f k l = some (lenB l : Int) := reflength_loop h 1024 k (by omega) (by omega) (fun x hx hx2 => by omega)
/-! ### Of, Put, Cut -/
theorem ba_data (f : List Int) (a m : Nat) : (strOfNums f).extract a m = strOfNums ((f.drop a).take (m - a)) := by
  apply ByteArray.ext
  rw [ByteArray.data_extract]
  unfold strOfNums
  apply Array.ext'
  simp [List.map_take, List.map_drop, Array.toList_extract, List.extract_eq_take_drop]
theorem str_append (f g : List Int) : strOfNums f ++ strOfNums g = strOfNums (f ++ g) := by
  apply ByteArray.ext
  simp [strOfNums]
theorem of_loop {f : List Int} (hf : Flat f) : ∀ (d k n : Nat), n + d = 32 → d + 70 < k → r7_Of.l0 k (strOfNums f) (foldN f n) (n : Int) = some (foldL f) := by
  intro d
  induction d with
  | zero =>
    intro k n hn hk
    obtain ⟨k, rfl⟩ : ∃ m, k = m + 1 := ⟨k - 1, by omega⟩
    obtain rfl : n = 32 := by omega
    simp only [r7_Of.l0]
    rw [if_neg (by omega)]
    rfl
  | succ d ih =>
    intro k n hn hk
    obtain ⟨k, rfl⟩ : ∃ m, k = m + 1 := ⟨k - 1, by omega⟩
    have hs := strOfNums_size f
    have e1 : wrap64 (32 * (n : Int)) = ((n * 32 : Nat) : Int) := by rw [wrap_in (by omega) (by omega)]; omega
    have e2 : wrap64 (((n * 32 : Nat) : Int) + 32) = ((n * 32 + 32 : Nat) : Int) := by rw [wrap_in (by omega) (by omega)]; omega
    have e3 : (strOfNums f).extract (((n * 32 : Nat) : Int)).toNat (((n * 32 + 32 : Nat) : Int)).toNat = seg f n := by
      rw [Int.toNat_natCast, Int.toNat_natCast, ba_data]
      unfold seg
      congr 2
      omega
    simp only [r7_Of.l0, e1, e2, e3]
    have hl := foldN_length f n
    rw [if_pos (by omega), if_pos (by omega), if_pos (by omega), if_pos (by rw [hs, hf.1]; omega), refnoughts_k (by rw [seg_size hf n (by omega)]; omega) (by omega)]
    simp only [Option.bind_some]
    have next : ∀ l : List S45, l = foldN f (n + 1) → r7_Of.l0 k (strOfNums f) l (wrap64 ((n : Int) + 1)) = some (foldL f) := by
      rintro _ rfl
      rw [wrap_in (by omega) (by omega)]
      exact ih k (n + 1) (by omega) (by omega)
    by_cases hz : allZ (seg f n) = true
    · rw [if_pos hz]
      exact next _ (by rw [foldN, if_pos hz])
    · rw [if_neg hz, if_pos (by omega)]
      exact next _ (by rw [foldN, if_neg hz])
theorem of_k {f : List Int} (hf : Flat f) {k : Nat} (hk : 110 < k) : r7_Of.f k (strOfNums f) = some (foldL f) := of_loop hf 32 k 0 (by omega) (by omega)
theorem whole_take (f : List Int) (h : f.length = 1024) : ((f.drop (0 : Int).toNat).take (1024 : Int).toNat) = f := by
  show (f.drop 0).take 1024 = f
  rw [List.drop_zero, List.take_of_length_le (by omega)]
theorem refput_k {l : List S45} (h : Obj l) {a : Int} {d : ByteArray} (ha : inB a d.size = true) {k : Nat} (hk : 1100 < k) : r7_Put.f k l a d = some (foldL (splice (F l) a.toNat (bytesOf d))) := by
  obtain ⟨h1, h2, h3, h4⟩ := inB_iff.1 ha
  have hf := flat_F h
  unfold r7_Put.f
  rw [refbytes_k h (inB_iff.2 ⟨by omega, by omega, by omega, by omega⟩) hk, whole_take _ hf.1]
  simp only [Option.bind_some]
  rw [if_pos ⟨h1, by omega, by rw [strOfNums_size]; exact hf.1⟩]
  have e : ((strOfNums (F l)).extract 0 a.toNat ++ d) ++ (strOfNums (F l)).extract (a.toNat + d.size) (strOfNums (F l)).size = strOfNums (splice (F l) a.toNat (bytesOf d)) := by
    rw [ba_data, ba_data, strOfNums_size]
    conv => lhs; rw [← str_bytes d]
    rw [str_append, str_append]
    unfold splice
    rw [bytesOf_length, str_bytes, List.drop_zero, List.append_assoc]
    congr 3
    rw [List.take_of_length_le (by rw [List.length_drop]; omega)]
  rw [e]
  exact of_k (flat_splice hf (by omega)) (by omega)
theorem cut_loop {l : List S45} (h : Obj l) (a : Int) (ha : 0 ≤ a) : ∀ (d k n : Nat), n + d = 1024 → d + 200 < k → r7_Cut.l0 k a (strOfNums (F l)) (strOfNums ((cutF (F l) a.toNat).take n)) (n : Int) = some (foldL (cutF (F l) a.toNat)) := by
  have hf := flat_F h
  have hc := flat_cut hf a.toNat
  intro d
  induction d with
  | zero =>
    intro k n hn hk
    obtain ⟨k, rfl⟩ : ∃ m, k = m + 1 := ⟨k - 1, by omega⟩
    obtain rfl : n = 1024 := by omega
    simp only [r7_Cut.l0]
    rw [if_neg (by omega), List.take_of_length_le (by rw [hc.1]; omega), of_k hc (by omega)]
    rfl
  | succ d ih =>
    intro k n hn hk
    obtain ⟨k, rfl⟩ : ∃ m, k = m + 1 := ⟨k - 1, by omega⟩
    have hs := strOfNums_size (F l)
    have hs2 : (strOfNums ((cutF (F l) a.toNat).take n)).size = n := by rw [strOfNums_size, List.length_take, hc.1]; omega
    have e1 : wrap64 ((n : Int) + 1) = ((n + 1 : Nat) : Int) := by rw [wrap_in (by omega) (by omega)]; omega
    have step : (cutF (F l) a.toNat).take (n + 1) = (cutF (F l) a.toNat).take n ++ [(cutF (F l) a.toNat).getD n 0] := by
      have := take_snoc_getD (cutF (F l) a.toNat) 0 n (by rw [hc.1]; omega)
      simpa using this
    have next : ∀ s : ByteArray, s = strOfNums [(cutF (F l) a.toNat).getD n 0] → r7_Cut.l0 k a (strOfNums (F l)) (strOfNums ((cutF (F l) a.toNat).take n) ++ s) ((n + 1 : Nat) : Int) = some (foldL (cutF (F l) a.toNat)) := by
      rintro _ rfl
      rw [str_append, ← step]
      exact ih k (n + 1) (by omega) (by omega)
    simp only [r7_Cut.l0, e1]
    rw [if_pos (by omega)]
    by_cases hn2 : (n : Int) < a
    · have e2 : (strOfNums (F l)).extract ((n : Int)).toNat (((n + 1 : Nat) : Int)).toNat = strOfNums [(cutF (F l) a.toNat).getD n 0] := by
        rw [Int.toNat_natCast, Int.toNat_natCast, ba_data, cutF_get hf.1, if_pos (by omega)]
        congr 1
        have e : n + 1 - n = 1 := by omega
        rw [e, List.drop_eq_getElem_cons (by rw [hf.1]; omega), List.take_succ_cons, List.take_zero, List.getD_eq_getElem?_getD, List.getElem?_eq_getElem (by rw [hf.1]; omega)]
        rfl
      rw [if_pos hn2, if_pos (by omega), if_pos (by omega), if_pos (by rw [hs, hf.1]; omega), e2, if_pos (by rw [hs2, strOfNums_size]; simp; omega)]
      exact next _ rfl
    · rw [if_neg hn2, hs2, if_pos (by omega)]
      refine next _ ?_
      rw [cutF_get hf.1, if_neg (by omega)]
      rfl
theorem refcut_k {l : List S45} (h : Obj l) {a : Int} (ha : 0 ≤ a) {k : Nat} (hk : 1300 < k) : r7_Cut.f k l a = some (foldL (cutF (F l) a.toNat)) := by
  have hf := flat_F h
  unfold r7_Cut.f
  rw [refbytes_k h (inB_iff.2 ⟨by omega, by omega, by omega, by omega⟩) (by omega), whole_take _ hf.1]
  simp only [Option.bind_some]
  have := cut_loop h a ha 1024 k 0 (by omega) (by omega)
  rw [List.take_zero] at this
  exact this
end Go.Proofs.YtojnmgogigamdaaDoor.Q
