/- The contracts of strings.Trim and strings.TrimRight at the cutset of one byte 00, and of pages.noughts, for every string of at most 4096 bytes. -/
import Derived.Test.YtojnmgogigamdaaDoorQ0
import Derived.Test.YtojnmgogigamdaaDoorQ3
import Derived.Outline
namespace Go.Proofs.YtojnmgogigamdaaDoor.Q
open Go.RowKit Go.Proofs.YtojnmgogigamdaaDoorW.PrintWords Go.Proofs.YtojnmgogigamdaaDoorW.PrintLast Go.Proofs.YtojnmgogigamdaaDoorW.PrintMore
set_option linter.unusedVariables false
set_option linter.unusedSimpArgs false

/-- Where the bytes end, of the first n, without noughts. -/
def rlenN (s : ByteArray) : Nat → Nat
  | 0 => 0
  | n + 1 => if bt s n = 0 then rlenN s n else n + 1
def rlen (s : ByteArray) : Nat := rlenN s s.size
theorem rlenN_le (s : ByteArray) : ∀ n, rlenN s n ≤ n
  | 0 => Nat.le_refl _
  | n + 1 => by
    unfold rlenN
    split
    · exact Nat.le_succ_of_le (rlenN_le s n)
    · exact Nat.le_refl _
theorem rlenN_zero (s : ByteArray) : ∀ n i, rlenN s n ≤ i → i < n → bt s i = 0
  | 0, _, _, h => by omega
  | n + 1, i, h, hi => by
    unfold rlenN at h
    split at h
    · rename_i hz
      rcases Nat.lt_or_ge i n with h1 | h1
      · exact rlenN_zero s n i h h1
      · obtain rfl : i = n := by omega
        exact hz
    · omega
theorem rlenN_last (s : ByteArray) : ∀ n, 0 < rlenN s n → bt s (rlenN s n - 1 : Nat) ≠ 0
  | 0, h => by simp [rlenN] at h
  | n + 1, h => by
    unfold rlenN at h ⊢
    split
    · rename_i hz
      rw [if_pos hz] at h
      exact rlenN_last s n h
    · rename_i hz
      simpa using hz
/-- How many noughts stand ahead, of d bytes from m on. -/
def leadN (s : ByteArray) : Nat → Nat → Nat
  | 0, m => m
  | d + 1, m => if bt s m = 0 then leadN s d (m + 1) else m
def allZ (s : ByteArray) : Bool := rlen s == 0

theorem bt_extract (s : ByteArray) (a b : Nat) (hb : b ≤ s.size) (i : Nat) (h : a + i < b) : bt (s.extract a b) (i : Int) = bt s ((a + i : Nat) : Int) := by
  unfold bt
  have h1 : ((i : Int)).toNat < (s.extract a b).size := by simp [ByteArray.size_extract]; omega
  have h2 : (((a + i : Nat) : Int)).toNat < s.size := by omega
  rw [dif_pos h1, dif_pos h2]
  simp only [ByteArray.getElem_extract, Int.toNat_natCast]
theorem size_extract' (s : ByteArray) (a b : Nat) (hb : b ≤ s.size) : (s.extract a b).size = b - a := by
  simp [ByteArray.size_extract]; omega
theorem extract_extract' (s : ByteArray) (a b c d : Nat) (h : a + d ≤ b) : (s.extract a b).extract c d = s.extract (a + c) (a + d) := by
  rw [ByteArray.extract_extract]
  congr 1
  omega

theorem trimRight_ends (s : ByteArray) (hs : s.size ≤ 4096) : ∀ n k, n ≤ s.size → n < k → strings_trimRightByte.l0 k (s.extract 0 n) 0 = some (s.extract 0 (rlenN s n))
  | 0, k, h, hk => by
    obtain ⟨k, rfl⟩ : ∃ m, k = m + 1 := ⟨k - 1, by omega⟩
    simp only [strings_trimRightByte.l0, size_extract' s 0 0 (Nat.zero_le _)]
    rw [if_neg (by simp)]
    rfl
  | n + 1, k, h, hk => by
    obtain ⟨k, rfl⟩ : ∃ m, k = m + 1 := ⟨k - 1, by omega⟩
    have hw : wrap64 (((n + 1 - 0 : Nat) : Int) - 1) = (n : Int) := by unfold wrap64; omega
    simp only [strings_trimRightByte.l0, size_extract' s 0 (n + 1) h, hw]
    rw [if_pos (by omega), if_pos (by omega), if_pos (by omega), bt_extract s 0 (n + 1) h n (by omega)]
    simp only [Nat.zero_add]
    unfold rlenN
    by_cases hz : bt s n = 0
    · rw [if_pos hz, if_pos hz, if_pos (by omega), Int.toNat_natCast, extract_extract' s 0 (n + 1) 0 n (by omega)]
      simpa using trimRight_ends s hs n k (by omega) (by omega)
    · rw [if_neg hz, if_neg hz]
theorem extract_whole (s : ByteArray) : s.extract 0 s.size = s := by simp
theorem trimRight_f (s : ByteArray) (hs : s.size ≤ 4096) : strings_trimRightByte.f (s.size + 1) s 0 = some (s.extract 0 (rlen s)) := by
  have h := trimRight_ends s hs s.size (s.size + 1) (Nat.le_refl _) (Nat.lt_succ_self _)
  rwa [extract_whole] at h
theorem trimLeft_ends (s : ByteArray) (n : Nat) (hn : n ≤ s.size) : ∀ d m k, m + d = n → d < k → strings_trimLeftByte.l0 k (s.extract m n) 0 = some (s.extract (leadN s d m) n)
  | 0, m, k, h, hk => by
    obtain ⟨k, rfl⟩ : ∃ m, k = m + 1 := ⟨k - 1, by omega⟩
    obtain rfl : m = n := by omega
    simp only [strings_trimLeftByte.l0, size_extract' s m m hn]
    rw [if_neg (by simp)]
    rfl
  | d + 1, m, k, h, hk => by
    obtain ⟨k, rfl⟩ : ∃ m, k = m + 1 := ⟨k - 1, by omega⟩
    simp only [strings_trimLeftByte.l0, size_extract' s m n hn]
    have hb := bt_extract s m n hn 0 (by omega)
    replace hb : bt (s.extract m n) 0 = bt s m := hb
    rw [if_pos (by omega), if_pos (by omega), hb]
    unfold leadN
    by_cases hz : bt s m = 0
    · rw [if_pos hz, if_pos hz, if_pos (by omega), extract_extract' s m n 1 (n - m) (by omega)]
      have : m + (n - m) = n := by omega
      rw [this]
      exact trimLeft_ends s n hn d (m + 1) k (by omega) (by omega)
    · rw [if_neg hz, if_neg hz]
theorem leadN_le (s : ByteArray) : ∀ d m, leadN s d m ≤ m + d
  | 0, m => Nat.le_refl _
  | d + 1, m => by
    unfold leadN
    split
    · have := leadN_le s d (m + 1); omega
    · omega
theorem leadN_stop (s : ByteArray) : ∀ (d m i : Nat), m ≤ i → i < m + d → bt s i ≠ 0 → leadN s d m < m + d
  | 0, m, i, h, h2, _ => by omega
  | d + 1, m, i, h, h2, hb => by
    unfold leadN
    split
    · rename_i hz
      rcases Nat.lt_or_ge m i with h1 | h1
      · have := leadN_stop s d (m + 1) i h1 (by omega) hb; omega
      · obtain rfl : i = m := by omega
        exact absurd hz hb
    · omega
theorem leadN_zero (s : ByteArray) : leadN s 0 0 = 0 := rfl
def pages_noughts.f (a0 : ByteArray) : Option Bool := if a0.size ≤ 4096 then some (allZ a0) else none
def strings_TrimRight.f (a0 a1 : ByteArray) : Option ByteArray := if a0.size ≤ 4096 ∧ a1 = ⟨#[0]⟩ then some (a0.extract 0 (rlen a0)) else none
def trim0 (s : ByteArray) : ByteArray := s.extract (leadN s (rlen s) 0) (rlen s)

theorem quiet_drawn {P : Program} {f : FuncId} {args : Array Value} {w : World} {n : Nat} {v : Value}
    (h : Calls P f args (w.drewN n) fun e w' => e = .returned v ∧ Drawn0 (w.drewN n) w') : Calls P f args (w.drewN n) fun e w'' => e = .returned v ∧ ∃ m, w'' = w.drewN m :=
  Calls.quiet_of (h.mono fun _ _ ⟨he, ⟨m, hm⟩⟩ => ⟨he, m, hm⟩)
set_option maxHeartbeats 8000000 in
set_option maxRecDepth 100000 in
theorem strings_Trim.calls0 (s : ByteArray) (w : World) (hs : s.size ≤ 4096) :
    Calls Tryd.prog 38 #[.string s, .string ⟨#[0]⟩] w fun e w' => e = .returned (.string (trim0 s)) ∧ Drawn0 w w' := by
  have hR := trimRight_f s hs
  have hL : strings_trimLeftByte.f (rlen s + 1) (s.extract 0 (rlen s)) 0 = some (trim0 s) := trimLeft_ends s (rlen s) (rlenN_le _ _) (rlen s) 0 (rlen s + 1) (by omega) (by omega)
  have HR := Aside0.mk hR
  have HL := Aside0.mk hL
  clear hR hL
  by_cases h0 : s.size = 0
  · have hs0 : s = ByteArray.empty := ByteArray.ext (Array.eq_empty_of_size_eq_zero h0)
    subst hs0
    go_enter Tryd.func38, Tryd.ntmps38
    go_wp2
    go_ret
    exact ⟨rfl, Drawn0.refl _⟩
  · have he : s.toList.isEmpty = false := by
      rw [Bool.eq_false_iff]
      intro h
      rw [ByteArray.toList_eq, List.isEmpty_iff] at h
      have h3 := congrArg List.length h
      rw [data_length] at h3
      exact h0 h3
    have e0 : ∀ h : 0 < (⟨#[0]⟩ : ByteArray).size, ((((⟨#[0]⟩ : ByteArray)[0]'h).toNat : Nat) : Int) = 0 := fun _ => rfl
    go_enter Tryd.func38, Tryd.ntmps38
    go_wp2
    go_quiet ((first | (go_at_call 39; exact quiet_drawn (strings_trimRightByte.calls _ _ _ _ _ HR.out)) | (go_at_call 43; exact quiet_drawn (strings_trimLeftByte.calls _ _ _ _ _ HL.out))))
    go_wp2
    go_ret
    exact ⟨rfl, Drawn0.step (Drawn0.refl _) _⟩
theorem trim0_size (s : ByteArray) : ((trim0 s).size = 0) ↔ allZ s = true := by
  unfold trim0 allZ
  have h1 : rlen s ≤ s.size := rlenN_le s s.size
  have h2 := leadN_le s (rlen s) 0
  rw [size_extract' _ _ _ h1]
  constructor
  · intro h
    rcases Nat.eq_zero_or_pos (rlen s) with h0 | h0
    · simp [h0]
    · have h3 := rlenN_last s s.size h0
      have h4 := leadN_stop s (rlen s) 0 (rlen s - 1) (Nat.zero_le _) (by omega) h3
      omega
  · intro h
    have h0 : rlen s = 0 := by simpa using h
    omega
theorem empty_of_size {s : ByteArray} (h : s.size = 0) : s = ByteArray.empty := ByteArray.ext (Array.eq_empty_of_size_eq_zero h)
set_option maxHeartbeats 8000000 in
set_option maxRecDepth 100000 in
theorem pages_noughts.calls (a0 : ByteArray) (r : Bool) (w : World) (h : pages_noughts.f a0 = some r) :
    Calls Tryd.prog 28 #[.string a0] w fun e w' => e = .returned (.bool r) ∧ Drawn0 w w' := by
  unfold pages_noughts.f at h
  by_cases hs : a0.size ≤ 4096
  · rw [if_pos hs] at h
    obtain rfl := Option.some.inj h
    have HS := Aside0.mk hs
    clear hs h
    have hT := trim0_size a0
    have ht : (trim0 a0).toList.isEmpty = allZ a0 := by
      rw [ByteArray.toList_eq, Bool.eq_iff_iff, List.isEmpty_iff, ← hT, ← data_length, List.length_eq_zero_iff]
    have HT := Aside0.mk ht
    clear hT ht
    go_enter Tryd.func28, Tryd.ntmps28
    go_wp2_with (go_at_call 38; refine (strings_Trim.calls0 _ _ HS.out).mono ?_; rintro e w' ⟨rfl, ⟨n, rfl⟩⟩)
    go_ret
    exact ⟨by rw [HT.out]; rfl, ⟨n, rfl⟩⟩
  · rw [if_neg hs] at h
    cases h
set_option maxHeartbeats 8000000 in
set_option maxRecDepth 100000 in
theorem strings_TrimRight.calls (a0 a1 : ByteArray) (r : ByteArray) (w : World) (h : strings_TrimRight.f a0 a1 = some r) :
    Calls Tryd.prog 30 #[.string a0, .string a1] w fun e w' => e = .returned (.string r) ∧ Drawn0 w w' := by
  unfold strings_TrimRight.f at h
  by_cases hs : a0.size ≤ 4096 ∧ a1 = ⟨#[0]⟩
  · rw [if_pos hs] at h
    obtain rfl := Option.some.inj h
    obtain ⟨hs, rfl⟩ := hs
    have HR := Aside0.mk (trimRight_f a0 hs)
    clear hs h
    by_cases h0 : a0.size = 0
    · have hs0 : a0 = ByteArray.empty := empty_of_size h0
      subst hs0
      go_enter Tryd.func30, Tryd.ntmps30
      go_wp2
      go_ret
      exact ⟨rfl, Drawn0.refl _⟩
    · have he : a0.toList.isEmpty = false := by
        rw [Bool.eq_false_iff]
        intro h
        rw [ByteArray.toList_eq, List.isEmpty_iff] at h
        have h3 := congrArg List.length h
        rw [data_length] at h3
        exact h0 h3
      have e0 : ∀ h : 0 < (⟨#[0]⟩ : ByteArray).size, ((((⟨#[0]⟩ : ByteArray)[0]'h).toNat : Nat) : Int) = 0 := fun _ => rfl
      go_enter Tryd.func30, Tryd.ntmps30
      go_wp2_with (go_at_call 39; refine (strings_trimRightByte.calls _ _ _ _ _ HR.out).mono ?_; rintro e w' ⟨rfl, ⟨n, rfl⟩⟩)
      go_ret
      exact ⟨rfl, ⟨_, rfl⟩⟩
  · rw [if_neg hs] at h
    cases h
end Go.Proofs.YtojnmgogigamdaaDoor.Q
