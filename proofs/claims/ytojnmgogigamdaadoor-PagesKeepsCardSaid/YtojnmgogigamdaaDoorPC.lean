/- The plain theory of pages, third part: what each function answers with enough rounds. -/
import Derived.Test.YtojnmgogigamdaaDoorPB
import Derived.Test.YtojnmgogigamdaaDoorQ6
import Derived.Test.YtojnmgogigamdaaDoorQ10
namespace Go.Proofs.YtojnmgogigamdaaDoor.Q
open Go.RowKit Go.Proofs.YtojnmgogigamdaaDoorW.PrintWords Go.Proofs.YtojnmgogigamdaaDoorW.PrintLast
set_option linter.unusedVariables false
set_option linter.unusedSimpArgs false

set_option maxRecDepth 1000000 in
theorem alive_40 : w7_alive.f 40 = some true := by kernel_rfl
theorem alive_k {k : Nat} (hk : 40 ≤ k) : w7_alive.f k = some true := at_rounds (g := fun k => w7_alive.f k) (fun k => w7_alive.mono k) hk alive_40
def inB (a b : Int) : Bool := decide (0 ≤ a ∧ 0 ≤ b ∧ a ≤ 1024 ∧ b ≤ 1024 - a)
theorem in_f (a b : Int) : pages_in.f a b = some (inB a b) := by
  unfold pages_in.f inB
  by_cases h1 : a ≥ 0
  · by_cases h2 : b ≥ 0
    · by_cases h3 : a ≤ 1024
      · rw [if_pos h1, if_pos h2, if_pos h3, wrap_in (by omega) (by omega)]
        congr 1
        apply decide_eq_decide.2
        omega
      · rw [if_pos h1, if_pos h2, if_neg h3, decide_eq_false (by omega)]
    · rw [if_pos h1, if_neg h2, decide_eq_false (by omega)]
  · rw [if_neg h1, decide_eq_false (by omega)]
theorem inB_iff {a b : Int} : inB a b = true ↔ 0 ≤ a ∧ 0 ≤ b ∧ a ≤ 1024 ∧ b ≤ 1024 - a := by unfold inB; exact decide_eq_true_iff

section
variable {l : List S45} {k : Nat}
theorem right_k (h : l.length ≤ 200) (hk : 200 < k) : pages_Right.f k l = some (okF (-1) l) := right_f l (by unfold maxLen; omega) (by omega)
theorem length_bad (h : l.length ≤ 200) (hk : 200 < k) (hb : okF (-1) l = false) : pages_Length.f k l = some (0, 1) := by
  unfold pages_Length.f
  rw [right_k h hk, hb]
  rfl
theorem length_ok (hk : 200 < k) (hb : Obj l) : pages_Length.f k l = some ((lenB l : Int), 0) := by
  have h32 := hb.length
  unfold pages_Length.f
  rw [right_k (by omega) hk, (ok_obj l).2 hb]
  simp only [Option.bind_some, if_true]
  unfold lenB
  cases hl : l.getLast? with
  | none =>
    have : l = [] := by simpa using hl
    subst this
    rfl
  | some p =>
    have hne : l ≠ [] := by rintro rfl; cases hl
    have hpos : 0 < l.length := List.length_pos_iff.2 hne
    have e : rd_T45 l (wrap64 ((l.length : Int) - 1)) = p := by
      rw [wrap_in (by omega) (by omega)]
      have e2 : ((l.length : Int) - 1).toNat = l.length - 1 := by omega
      unfold rd_T45
      rw [e2]
      rw [List.getLast?_eq_getElem?] at hl
      rw [List.getD_eq_getElem?_getD, hl]
      rfl
    obtain ⟨hp, _⟩ := last_max l p hb hl
    have hg := hb.1 p hp
    have hr : rlen p.f1 ≤ p.f1.size := rlenN_le _ _
    rw [e, if_neg (by omega), wrap_in (by omega) (by omega), if_pos (by omega), if_pos (by omega)]
    unfold strings_TrimRight.f
    rw [if_pos ⟨by have := hg.2.2.1; omega, rfl⟩]
    simp only [Option.bind_some]
    have hs : (p.f1.extract 0 (rlen p.f1)).size = rlen p.f1 := by rw [size_extract' _ _ _ hr]; omega
    have h0 := hg.1
    have h1 := hg.2.1
    have h3 := hg.2.2.1
    rw [hs, wrap_in (i := p.f0 * 32) (by omega) (by omega), wrap_in (by omega) (by omega)]
    congr 2
    omega
theorem bytes_bad {a b : Int} (h : l.length ≤ 200) (hk : 200 < k) (hb : okF (-1) l = false) : pages_Bytes.f k l a b = some (⟨#[]⟩, 1) := by
  unfold pages_Bytes.f
  rw [right_k h hk, hb]
  rfl
theorem bytes_out {a b : Int} (hk : 200 < k) (hb : Obj l) (hi : inB a b = false) : pages_Bytes.f k l a b = some (⟨#[]⟩, 1) := by
  unfold pages_Bytes.f
  rw [right_k (by have := hb.length; omega) hk, (ok_obj l).2 hb, in_f, hi]
  rfl
theorem bytes_ok {a b : Int} (hk : 200 < k) (hb : Obj l) (hi : inB a b = true) : pages_Bytes.f k l a b = some (strOfNums (((F l).drop a.toNat).take b.toNat), 0) := by
  unfold pages_Bytes.f
  rw [right_k (by have := hb.length; omega) hk, (ok_obj l).2 hb, in_f, hi]
  rfl
theorem put_bad {a : Int} {d : ByteArray} (h : l.length ≤ 200) (hk : 200 < k) (hb : okF (-1) l = false) : pages_Put.f k l a d = some ([], 1) := by
  unfold pages_Put.f
  rw [right_k h hk, hb]
  rfl
theorem put_out {a : Int} {d : ByteArray} (hk : 200 < k) (hb : Obj l) (hi : inB a d.size = false) : pages_Put.f k l a d = some ([], 1) := by
  unfold pages_Put.f
  rw [right_k (by have := hb.length; omega) hk, (ok_obj l).2 hb, in_f, hi]
  rfl
theorem put_ok {a : Int} {d : ByteArray} (hk : 200 < k) (hb : Obj l) (hi : inB a d.size = true) : pages_Put.f k l a d = some (foldL (splice (F l) a.toNat (bytesOf d)), 0) := by
  unfold pages_Put.f
  rw [right_k (by have := hb.length; omega) hk, (ok_obj l).2 hb, in_f, hi]
  rfl
def cutF (f : List Int) (n : Nat) : List Int := f.take (min n 1024) ++ List.replicate (1024 - min n 1024) 0
theorem cut_bad {a : Int} (h : l.length ≤ 200) (hk : 200 < k) (hb : okF (-1) l = false) : pages_Cut.f k l a = some ([], 1) := by
  unfold pages_Cut.f
  rw [right_k h hk, hb]
  rfl
theorem cut_neg {a : Int} (hk : 200 < k) (hb : Obj l) (ha : a < 0) : pages_Cut.f k l a = some ([], 1) := by
  unfold pages_Cut.f
  rw [right_k (by have := hb.length; omega) hk, (ok_obj l).2 hb]
  simp only [Option.bind_some, if_true]
  rw [if_pos ha]
theorem cut_ok {a : Int} (hk : 200 < k) (hb : Obj l) (ha : 0 ≤ a) : pages_Cut.f k l a = some (foldL (cutF (F l) a.toNat), 0) := by
  unfold pages_Cut.f
  rw [right_k (by have := hb.length; omega) hk, (ok_obj l).2 hb]
  simp only [Option.bind_some, if_true]
  rw [if_neg (by omega)]
  rfl
end
/-! ### Flats -/
theorem bytes_range (s : ByteArray) (i : Nat) : 0 ≤ (bytesOf s).getD i 0 ∧ (bytesOf s).getD i 0 ≤ 255 := by
  rw [getD_bytes]
  exact bt_range _ _
theorem flat_splice {f : List Int} (hf : Flat f) {off : Nat} {d : ByteArray} (h : off + d.size ≤ 1024) : Flat (splice f off (bytesOf d)) := by
  have hfit : off + (bytesOf d).length ≤ f.length := by rw [bytesOf_length, hf.1]; exact h
  refine ⟨by rw [splice_length _ _ _ hfit, hf.1], fun x => ?_⟩
  rw [splice_getD _ _ _ hfit]
  split
  · exact bytes_range _ _
  · exact hf.2 x
theorem splice_mid (f : List Int) (off : Nat) (cs : List Int) (h : off + cs.length ≤ f.length) : ((splice f off cs).drop off).take cs.length = cs := by
  unfold splice
  have hl : (f.take off).length = off := by rw [List.length_take]; omega
  rw [List.drop_append_of_le_length (by omega), List.drop_of_length_le (by omega), List.nil_append, List.take_append_of_le_length (by omega), List.take_length]
theorem cutF_get {f : List Int} (hf : f.length = 1024) (n x : Nat) : (cutF f n).getD x 0 = if x < n ∧ x < 1024 then f.getD x 0 else 0 := by
  unfold cutF
  have hl : (f.take (min n 1024)).length = min n 1024 := by rw [List.length_take, hf]; omega
  simp only [List.getD_eq_getElem?_getD]
  rcases Nat.lt_or_ge x (min n 1024) with h | h
  · rw [if_pos (by omega), List.getElem?_append_left (by omega), List.getElem?_take, if_pos h]
  · rw [if_neg (by omega), List.getElem?_append_right (by omega), hl, List.getElem?_replicate]
    split <;> rfl
theorem flat_cut {f : List Int} (hf : Flat f) (n : Nat) : Flat (cutF f n) := by
  refine ⟨by unfold cutF; rw [List.length_append, List.length_take, hf.1, List.length_replicate]; omega, fun x => ?_⟩
  rw [cutF_get hf.1]
  split
  · exact hf.2 x
  · omega
/-! ### Same -/
theorem same_loop (l : List S45) (hl : l.length ≤ 200) : ∀ (d k i : Nat), i + d = l.length → d < k → r7_Same.l0 k l l (i : Int) = some true := by
  intro d
  induction d with
  | zero =>
    intro k i hi hk
    obtain ⟨k, rfl⟩ : ∃ m, k = m + 1 := ⟨k - 1, by omega⟩
    simp only [r7_Same.l0]
    rw [if_neg (by omega)]
  | succ d ih =>
    intro k i hi hk
    obtain ⟨k, rfl⟩ : ∃ m, k = m + 1 := ⟨k - 1, by omega⟩
    simp only [r7_Same.l0]
    rw [if_pos (by omega), if_pos (by omega), if_pos (by omega), if_neg (by simp), wrap_in (by omega) (by omega)]
    exact ih k (i + 1) (by omega) (by omega)
theorem same_k {l m : List S45} (hl : l.length ≤ 200) (e : l = m) {k : Nat} (hk : 200 < k) : r7_Same.f k l m = some true := by
  subst e
  unfold r7_Same.f
  rw [if_pos rfl]
  exact same_loop l hl l.length k 0 (by omega) (by omega)
end Go.Proofs.YtojnmgogigamdaaDoor.Q
