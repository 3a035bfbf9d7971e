/- Contracts and plain theory of this seat, merged out of smaller texts: P3, P4, T13, R1, R2, R3. -/
import Derived.Test.YthbdgahmlggpmaaDoorQ7
import Derived.Test.YthbdgahmlggpmaaDoorQ8
import Derived.Test.YthbdgahmlggpmaaDoorQ9
import Derived.Test.YthbdgahmlggpmaaDoorM9
import Derived.Outline
import Derived.BigQuiet
import Derived.Deep.QuietTactic
import Derived.Test.YthbdgahmlggpmaaDoorQ10
import Derived.Test.YthbdgahmlggpmaaDoorM1
import Derived.Lib.IndexLaws
import Derived.Lib.CutLaws
import Derived.Lib.CountLaws
import Derived.Test.YthbdgahmlggpmaaDoorQ11
import Derived.Test.YthbdgahmlggpmaaDoorM5
/- What lamellaref10's Get, Kid, Kids, Depth and Name answer, in plain Lean. -/




namespace Go.Proofs.YthbdgahmlggpmaaDoor.Q
open Go.RowKit Go.Proofs.YthbdgahmlggpmaaDoorW.PrintWords Go.Proofs.YthbdgahmlggpmaaDoorW.PrintLast
set_option linter.unusedVariables false
set_option linter.unusedSimpArgs false
def idxI (i : Nat) : Option Nat → Int
  | some j => ((i + j : Nat) : Int)
  | none => -1
theorem idxI_step (i : Nat) (o : Option Nat) : idxI i (o.map (· + 1)) = idxI (i + 1) o := by
  cases o with
  | none => rfl
  | some j => simp only [Option.map_some, idxI]; omega
def getN (l : List S34) (id : Int) : Int := idxI 0 (l.findIdx? (fun x => x.f0 == id))
theorem rget_loop (l : List S34) (hl : l.length ≤ maxLen) (id : Int) : ∀ (n k i : Nat), i + n = l.length → n < k → r10_Get.l0 k l id (i : Int) = some (idxI i ((l.drop i).findIdx? (fun x => x.f0 == id))) := by
  unfold maxLen at hl
  intro n
  induction n with
  | zero =>
    intro k i hi hk
    obtain ⟨k, rfl⟩ : ∃ m, k = m + 1 := ⟨k - 1, by omega⟩
    simp only [r10_Get.l0]
    rw [if_neg (by omega), List.drop_eq_nil_of_le (by omega)]
    rfl
  | succ n ih =>
    intro k i hi hk
    obtain ⟨k, rfl⟩ : ∃ m, k = m + 1 := ⟨k - 1, by omega⟩
    simp only [r10_Get.l0]
    rw [if_pos (by omega), if_pos (by omega), drop34 l i (by omega), wrap_in (by omega) (by omega)]
    have hi' := ih k (i + 1) (by omega) (by omega)
    rw [show (((i + 1 : Nat)) : Int) = (i : Int) + 1 by omega] at hi'
    rw [hi', List.findIdx?_cons]
    by_cases h1 : (rd_T34 l (i : Int)).f0 = id
    · rw [if_pos h1, if_pos (by simpa using h1)]
      simp [idxI]
    · rw [if_neg h1, if_neg (by simpa using h1), idxI_step]
theorem rget_f (l : List S34) (hl : l.length ≤ maxLen) (id : Int) (k : Nat) (hk : l.length < k) : r10_Get.f k l id = some (getN l id) := by
  unfold r10_Get.f
  exact rget_loop l hl id l.length k 0 (by omega) hk
def kidN (l : List S34) (d : Int) (nm : ByteArray) : Int := idxI 1 ((l.drop 1).findIdx? (fun x => x.f1 == d && x.f2.toList == nm.toList))
theorem rkid_loop (l : List S34) (hl : l.length ≤ maxLen) (d : Int) (nm : ByteArray) : ∀ (n k i : Nat), i + n = l.length → n < k → r10_Kid.l0 k l d nm (i : Int) = some (idxI i ((l.drop i).findIdx? (fun x => x.f1 == d && x.f2.toList == nm.toList))) := by
  unfold maxLen at hl
  intro n
  induction n with
  | zero =>
    intro k i hi hk
    obtain ⟨k, rfl⟩ : ∃ m, k = m + 1 := ⟨k - 1, by omega⟩
    simp only [r10_Kid.l0]
    rw [if_neg (by omega), List.drop_eq_nil_of_le (by omega)]
    rfl
  | succ n ih =>
    intro k i hi hk
    obtain ⟨k, rfl⟩ : ∃ m, k = m + 1 := ⟨k - 1, by omega⟩
    simp only [r10_Kid.l0]
    rw [if_pos (by omega), if_pos (by omega), drop34 l i (by omega), wrap_in (by omega) (by omega)]
    have hi' := ih k (i + 1) (by omega) (by omega)
    rw [show (((i + 1 : Nat)) : Int) = (i : Int) + 1 by omega] at hi'
    rw [hi', List.findIdx?_cons]
    by_cases h1 : (rd_T34 l (i : Int)).f1 = d
    · rw [if_pos h1]
      by_cases h2 : (rd_T34 l (i : Int)).f2.toList = nm.toList
      · rw [if_pos h2, if_pos (by simp [h1, h2])]
        simp [idxI]
      · rw [if_neg h2, if_neg (by simp [h2]), idxI_step]
    · rw [if_neg h1, if_neg (by simp [h1]), idxI_step]
theorem rkid_f (l : List S34) (hl : l.length ≤ maxLen) (hp : 0 < l.length) (d : Int) (nm : ByteArray) (k : Nat) (hk : l.length < k) : r10_Kid.f k l d nm = some (kidN l d nm) := by
  unfold r10_Kid.f
  exact rkid_loop l hl d nm (l.length - 1) k 1 (by omega) (by omega)
def kidsN (l : List S34) (d : Int) : Nat := ((l.drop 1).filter (fun x => x.f1 == d)).length
theorem rkids_loop (l : List S34) (hl : l.length ≤ 1000) (d : Int) : ∀ (n k i c : Nat), i + n = l.length → n < k → c ≤ i → r10_Kids.l0 k l d (c : Int) (i : Int) = some (((c + ((l.drop i).filter (fun x => x.f1 == d)).length : Nat)) : Int) := by
  intro n
  induction n with
  | zero =>
    intro k i c hi hk hc
    obtain ⟨k, rfl⟩ : ∃ m, k = m + 1 := ⟨k - 1, by omega⟩
    simp only [r10_Kids.l0]
    rw [if_neg (by omega), List.drop_eq_nil_of_le (by omega)]
    rfl
  | succ n ih =>
    intro k i c hi hk hc
    obtain ⟨k, rfl⟩ : ∃ m, k = m + 1 := ⟨k - 1, by omega⟩
    simp only [r10_Kids.l0]
    rw [if_pos (by omega), if_pos (by omega), drop34 l i (by omega), wrap_in (i := (i : Int) + 1) (by omega) (by omega), wrap_in (i := (c : Int) + 1) (by omega) (by omega)]
    have h1 := ih k (i + 1) c (by omega) (by omega) (by omega)
    have h2 := ih k (i + 1) (c + 1) (by omega) (by omega) (by omega)
    rw [show (((i + 1 : Nat)) : Int) = (i : Int) + 1 by omega] at h1 h2
    rw [show (((c + 1 : Nat)) : Int) = (c : Int) + 1 by omega] at h2
    rw [List.filter_cons]
    by_cases h3 : (rd_T34 l (i : Int)).f1 = d
    · rw [if_pos h3, if_pos (by simpa using h3), h2, List.length_cons]
      congr 1
      omega
    · rw [if_neg h3, if_neg (by simpa using h3), h1]
theorem rkids_f (l : List S34) (hl : l.length ≤ 1000) (hp : 0 < l.length) (d : Int) (k : Nat) (hk : l.length < k) : r10_Kids.f k l d = some ((kidsN l d : Nat) : Int) := by
  unfold r10_Kids.f
  have := rkids_loop l hl d (l.length - 1) k 1 0 (by omega) (by omega) (by omega)
  rw [Nat.zero_add] at this
  exact this
theorem getN_range (l : List S34) (id : Int) : -1 ≤ getN l id ∧ getN l id < (l.length : Int) := by
  unfold getN
  cases h : l.findIdx? (fun x => x.f0 == id) with
  | none => simp only [idxI]; omega
  | some j =>
    have := (List.findIdx?_eq_some_iff_getElem.1 h).1
    simp only [idxI]
    omega
def depthN (l : List S34) : Nat → Int → Int → Int
  | 0, _, _ => 99
  | m + 1, i, n => if (rd_T34 l i).f0 = 1 then n else if getN l (rd_T34 l i).f1 < 0 then 99 else if n > 6 then 99 else depthN l m (getN l (rd_T34 l i).f1) (n + 1)
theorem rdepth_loop (l : List S34) (hl : l.length ≤ 1000) : ∀ (m k : Nat) (i n : Int), n = 8 - (m : Int) → m ≤ 8 → 0 < m → l.length + m < k → 0 ≤ i → i < (l.length : Int) → r10_Depth.l0 k l i n = some (depthN l m i n) := by
  intro m
  induction m with
  | zero => intro k i n _ _ h; omega
  | succ m ih =>
    intro k i n hn hm _ hk h0 h1
    obtain ⟨k, rfl⟩ : ∃ m, k = m + 1 := ⟨k - 1, by omega⟩
    simp only [r10_Depth.l0, depthN]
    rw [if_pos h0, if_pos h1]
    by_cases h2 : (rd_T34 l i).f0 = 1
    · rw [if_pos h2, if_pos h2]
    · rw [if_neg h2, if_neg h2, rget_f l (by unfold maxLen; omega) _ k (by omega)]
      show (if getN l (rd_T34 l i).f1 < 0 then some 99 else if n > 6 then some 99 else r10_Depth.l0 k l (getN l (rd_T34 l i).f1) (wrap64 (n + 1))) = _
      have hr := getN_range l (rd_T34 l i).f1
      by_cases h3 : getN l (rd_T34 l i).f1 < 0
      · rw [if_pos h3, if_pos h3]
      · rw [if_neg h3, if_neg h3]
        by_cases h4 : n > 6
        · rw [if_pos h4, if_pos h4]
        · rw [if_neg h4, if_neg h4, wrap_in (by omega) (by omega)]
          exact ih k _ (n + 1) (by omega) (by omega) (by omega) (by omega) (by omega) hr.2
theorem rdepth_f (l : List S34) (hl : l.length ≤ 1000) (k : Nat) (hk : l.length + 8 < k) (i : Int) (h0 : 0 ≤ i) (h1 : i < (l.length : Int)) : r10_Depth.f k l i = some (depthN l 8 i 0) := by
  unfold r10_Depth.f
  exact rdepth_loop l hl 8 k i 0 (by omega) (by omega) (by omega) hk h0 h1
end Go.Proofs.YthbdgahmlggpmaaDoor.Q
/- lamellaref10.Name is tree.isName. -/

namespace Go.Proofs.YthbdgahmlggpmaaDoor.Q
open Go.RowKit Go.Proofs.YthbdgahmlggpmaaDoorW.PrintWords Go.Proofs.YthbdgahmlggpmaaDoorW.PrintLast
set_option linter.unusedVariables false
set_option linter.unusedSimpArgs false
def nameD (c : Int) : Bool := (decide (97 ≤ c) && decide (c ≤ 122)) || (decide (48 ≤ c) && decide (c ≤ 57)) || c == 46 || c == 95 || c == 45
theorem nameD_all : (List.range 256).all (fun n => nameC (n : Int) == nameD (n : Int)) = true := by kernel_rfl
theorem nameD_eq (c : Int) (h0 : 0 ≤ c) (h1 : c < 256) : nameC c = nameD c := by
  have h := List.all_eq_true.1 nameD_all c.toNat (List.mem_range.2 (by omega))
  rw [show ((c.toNat : Nat) : Int) = c by omega] at h
  exact eq_of_beq h
theorem bt_range (s : ByteArray) (i : Int) : 0 ≤ bt s i ∧ bt s i < 256 := by
  unfold bt
  split
  · rename_i h
    have := UInt8.toNat_lt (s[i.toNat]'h)
    omega
  · omega
theorem rname_step (k : Nat) (s : ByteArray) (i : Nat) (hi : i < s.size) : r10_Name.l0 (k + 1) s (i : Int) = if nameD (bt s (i : Int)) = true then r10_Name.l0 k s (wrap64 ((i : Int) + 1)) else some false := by
  simp only [r10_Name.l0]
  rw [if_pos (by omega), if_pos (by omega)]
  generalize bt s (i : Int) = c
  generalize r10_Name.l0 k s (wrap64 ((i : Int) + 1)) = q
  unfold nameD
  by_cases a : 97 ≤ c <;> by_cases b : c ≤ 122 <;> by_cases d : 48 ≤ c <;> by_cases e : c ≤ 57 <;> by_cases f : c = 46 <;> by_cases g : c = 95 <;> by_cases h : c = 45 <;> simp [a, b, d, e, f, g, h]
theorem rname_loop (s : ByteArray) (hs : s.size ≤ 8) : ∀ (n k i : Nat), i + n = s.size → n < k → r10_Name.l0 k s (i : Int) = some ((List.range' i n).all (fun j => nameC (bt s (j : Int)))) := by
  intro n
  induction n with
  | zero =>
    intro k i hi hk
    obtain ⟨k, rfl⟩ : ∃ m, k = m + 1 := ⟨k - 1, by omega⟩
    simp only [r10_Name.l0]
    rw [if_neg (by omega)]
    rfl
  | succ n ih =>
    intro k i hi hk
    obtain ⟨k, rfl⟩ : ∃ m, k = m + 1 := ⟨k - 1, by omega⟩
    rw [rname_step k s i (by omega), wrap_in (by omega) (by omega), List.range'_succ, List.all_cons, nameD_eq _ (bt_range s _).1 (bt_range s _).2]
    have hi' := ih k (i + 1) (by omega) (by omega)
    rw [show (((i + 1 : Nat)) : Int) = (i : Int) + 1 by omega] at hi'
    rw [hi']
    cases nameD (bt s (i : Int)) <;> simp
theorem rname_f (s : ByteArray) (k : Nat) (hk : 10 < k) : r10_Name.f k s = some (isNameB s) := by
  obtain ⟨k, rfl⟩ : ∃ m, k = m + 1 := ⟨k - 1, by omega⟩
  unfold r10_Name.f isNameB
  by_cases h1 : s.size < 1
  · rw [if_pos (by omega), decide_eq_false (by omega)]
    simp [r10_Name.j0]
  · rw [if_neg (by omega), decide_eq_true (by omega)]
    by_cases h2 : s.size > 8
    · rw [if_pos (by omega), decide_eq_false (by omega)]
      simp [r10_Name.j0]
    · rw [if_neg (by omega), decide_eq_true (by omega)]
      by_cases h3 : s.toList = [46]
      · rw [if_pos h3]
        simp [r10_Name.j0, h3]
      · rw [if_neg h3]
        by_cases h4 : s.toList = [46, 46]
        · simp [r10_Name.j0, h4]
        · have e3 : (s.toList == [46]) = false := by simpa using h3
          have e4 : (s.toList == [46, 46]) = false := by simpa using h4
          rw [e3, e4]
          simp only [r10_Name.j0]
          rw [if_neg (by decide)]
          have := rname_loop s (by omega) s.size k 0 (by omega) (by omega)
          rw [← List.range_eq_range'] at this
          simpa using this
end Go.Proofs.YthbdgahmlggpmaaDoor.Q
/- The contract of lamellaref10.Right, for every list of inodes whose numbers are u32. -/




namespace Go.Proofs.YthbdgahmlggpmaaDoor.Q
open Go.RowKit Go.Proofs.YthbdgahmlggpmaaDoorW.PrintWords Go.Proofs.YthbdgahmlggpmaaDoorW.PrintLast Go.Proofs.YthbdgahmlggpmaaDoorW.PrintMore
set_option linter.unusedVariables false
set_option linter.unusedSimpArgs false
theorem rname_q (s : ByteArray) (w : World) : Calls Tryd.prog 50 #[.string s] w fun e w' => e = .returned (.bool (isNameB s)) ∧ ∃ m, w' = w.drewN m :=
  (r10_Name.calls 11 s _ w (rname_f s 11 (by omega))).mono fun e w' hh => ⟨hh.1, hh.2.out⟩
theorem rget_c (A0 : Option Addr) (c0 : Nat) (l : List S34) (id : Int) (w : World) (hr0 : Kd.C k34 w A0 l.length l) (hc0 : l.length ≤ c0) (hl : l.length ≤ 1000) :
    Calls Tryd.prog 18 #[.slice A0 l.length c0, .int .u32 id] w fun e w' => e = .returned (.int .i64 (getN l id)) ∧ Below w.heap.size w w' :=
  (r10_Get.calls (l.length + 1) A0 c0 l id _ w hr0 hc0 (rget_f l (by unfold maxLen; omega) id _ (by omega))).mono fun e w' hh => ⟨hh.1, hh.2.below⟩
theorem rkid_c (A0 : Option Addr) (c0 : Nat) (l : List S34) (d : Int) (nm : ByteArray) (w : World) (hr0 : Kd.C k34 w A0 l.length l) (hc0 : l.length ≤ c0) (hl : l.length ≤ 1000) (hp : 0 < l.length) :
    Calls Tryd.prog 45 #[.slice A0 l.length c0, .int .u32 d, .string nm] w fun e w' => e = .returned (.int .i64 (kidN l d nm)) ∧ Below w.heap.size w w' :=
  (r10_Kid.calls (l.length + 1) A0 c0 l d nm _ w hr0 hc0 (rkid_f l (by unfold maxLen; omega) hp d nm _ (by omega))).mono fun e w' hh => ⟨hh.1, hh.2.below⟩
theorem rkids_c (A0 : Option Addr) (c0 : Nat) (l : List S34) (d : Int) (w : World) (hr0 : Kd.C k34 w A0 l.length l) (hc0 : l.length ≤ c0) (hl : l.length ≤ 1000) (hp : 0 < l.length) :
    Calls Tryd.prog 46 #[.slice A0 l.length c0, .int .u32 d] w fun e w' => e = .returned (.int .i64 (kidsN l d : Nat)) ∧ Below w.heap.size w w' :=
  (r10_Kids.calls (l.length + 1) A0 c0 l d _ w hr0 hc0 (rkids_f l hl hp d _ (by omega))).mono fun e w' hh => ⟨hh.1, hh.2.below⟩
theorem rdepth_c (A0 : Option Addr) (c0 : Nat) (l : List S34) (i : Int) (w : World) (hr0 : Kd.C k34 w A0 l.length l) (hc0 : l.length ≤ c0) (hl : l.length ≤ 1000) (h0 : 0 ≤ i) (h1 : i < (l.length : Int)) :
    Calls Tryd.prog 49 #[.slice A0 l.length c0, .int .i64 i] w fun e w' => e = .returned (.int .i64 (depthN l 8 i 0)) ∧ Below w.heap.size w w' :=
  (r10_Depth.calls (l.length + 9) A0 c0 l i _ w hr0 hc0 (rdepth_f l hl _ (by omega) i h0 h1)).mono fun e w' hh => ⟨hh.1, hh.2.below⟩
def firstN (l : List S34) (j : Nat) : Bool :=
  !(decide ((rd_T34 l ((j + 1 : Nat) : Int)).f0 ≤ (rd_T34 l (j : Int)).f0)) && isNameB (rd_T34 l ((j + 1 : Nat) : Int)).f2 && !(decide ((rd_T34 l ((j + 1 : Nat) : Int)).f4 > 1024)) && !((rd_T34 l ((j + 1 : Nat) : Int)).f3 && ((rd_T34 l ((j + 1 : Nat) : Int)).f4 != 0))
def secondN (l : List S34) (j : Nat) (x : S34) : Bool :=
  !(decide (getN l x.f1 < 0)) && (rd_T34 l (getN l x.f1)).f3 && (kidN l x.f1 x.f2 == ((j + 1 : Nat) : Int)) && decide (kidsN l x.f1 ≤ 12) && !(decide (depthN l 8 ((j + 1 : Nat) : Int) 0 > 6))
def bothN (l : List S34) (j : Nat) : Bool := firstN l j && secondN l j (rd_T34 l ((j + 1 : Nat) : Int))
def rightN (l : List S34) : Bool :=
  decide (1 ≤ l.length) && decide (l.length ≤ 40) && rootB (rd_T34 l 0) && (List.range (l.length - 1)).all (bothN l)
def r10_Right.f (l : List S34) : Option Bool := if wfL l = true then some (rightN l) else none
set_option maxHeartbeats 4000000 in
set_option maxRecDepth 100000 in
theorem r10_Right.calls (A0 : Option Addr) (c0 : Nat) (l0 : List S34) (r : Bool) (w : World) (hr0 : Kd.C k34 w A0 l0.length l0) (hc0 : l0.length ≤ c0) (h : r10_Right.f l0 = some r) :
    Calls Tryd.prog 16 #[.slice A0 l0.length c0] w fun e w' => e = .returned (.bool r) ∧ Below w.heap.size w w' := by
  unfold r10_Right.f at h
  by_cases hwf : wfL l0 = true
  · rw [if_pos hwf] at h
    cases h
    have HR0 := Aside0.mk hr0
    have HC0 := Aside0.mk hc0
    clear hr0 hc0
    have hwf := Aside0.mk hwf
    by_cases H1 : l0.length < 1
    · have hf : rightN l0 = false := by unfold rightN; rw [decide_eq_false (show ¬ 1 ≤ l0.length by omega)]; simp
      rw [hf]
      go_enter Tryd.func16, Tryd.ntmps16
      go_wp2_with (fail)
      go_ret
      exact ⟨rfl, Below.refl _ _⟩
    by_cases H2 : 40 < l0.length
    · have hf : rightN l0 = false := by unfold rightN; rw [decide_eq_false (show ¬ l0.length ≤ 40 by omega)]; simp
      rw [hf]
      go_enter Tryd.func16, Tryd.ntmps16
      go_wp2_with (fail)
      all_goals first | (go_ret; exact ⟨rfl, Below.refl _ _⟩) | (exfalso; omega)
    obtain ⟨ad, e, z0, z1, z2, z3, z4⟩ := at_T34 HR0.out 0 (by omega) (by omega)
    cases e
    have HCR : Aside0 (∀ j : Nat, j < l0.length → w.cell? (ad.add (j * 5)) = some (.int .u32 (rd_T34 l0 j).f0) ∧ w.cell? ⟨(ad.add (j * 5)).block, (ad.add (j * 5)).off + 1, none⟩ = some (.int .u32 (rd_T34 l0 j).f1) ∧ w.cell? ⟨(ad.add (j * 5)).block, (ad.add (j * 5)).off + 2, none⟩ = some (.string (rd_T34 l0 j).f2) ∧ w.cell? ⟨(ad.add (j * 5)).block, (ad.add (j * 5)).off + 3, none⟩ = some (.bool (rd_T34 l0 j).f3) ∧ w.cell? ⟨(ad.add (j * 5)).block, (ad.add (j * 5)).off + 4, none⟩ = some (.int .u32 (rd_T34 l0 j).f4)) := ⟨fun j hj => by
      obtain ⟨ad', e, q⟩ := at_T34 HR0.out (j : Int) (by omega) (by omega)
      cases e
      simpa only [Int.toNat_natCast] using q⟩
    rw [show ((0 : Int)).toNat * 5 = 0 from rfl, Addr.add_zero'] at z0 z1 z2 z3 z4
    have hcmp : (!((rd_T34 l0 0).f0 == 1) || (!((rd_T34 l0 0).f1 == 0) || (!((rd_T34 l0 0).f2.toList == []) || (!(rd_T34 l0 0).f3 || !((rd_T34 l0 0).f4 == 0))))) = !rootB (rd_T34 l0 0) := by
      unfold rootB
      simp [Bool.not_and, Bool.or_assoc]
    have hg1 : (0 < l0.length) = True := eq_true (by omega)
    by_cases H3 : rootB (rd_T34 l0 0) = false
    · have hf : rightN l0 = false := by unfold rightN; rw [H3]; simp
      rw [hf]
      clear hcmp
      go_enter Tryd.func16, Tryd.ntmps16
      go_wp2_with (fail)
      all_goals first | (go_ret; exact ⟨rfl, Below.refl _ _⟩) | skip
      exfalso
      have q0 : (rd_T34 l0 0).f0 = 1 := by assumption
      have q1 : (rd_T34 l0 0).f1 = 0 := by assumption
      have q2 : (rd_T34 l0 0).f2.toList = [] := by assumption
      have q3 : ¬ (rd_T34 l0 0).f3 = false := by assumption
      have q4 : (rd_T34 l0 0).f4 = 0 := by assumption
      unfold rootB at H3
      rw [q0, q1, q2, q4] at H3
      simp at H3
      exact q3 H3
    · have H3' : rootB (rd_T34 l0 0) = true := by simpa using H3
      clear hcmp
      have hrootb := H3'
      unfold rootB at H3'
      simp only [Bool.and_eq_true, beq_iff_eq] at H3'
      obtain ⟨⟨⟨⟨q0, q1⟩, q2⟩, q3⟩, q4⟩ := H3'
      have hf : rightN l0 = (List.range (l0.length - 1)).all (bothN l0) := by
        unfold rightN
        rw [hrootb, decide_eq_true (show 1 ≤ l0.length by omega), decide_eq_true (show l0.length ≤ 40 by omega)]
        simp
      go_enter Tryd.func16, Tryd.ntmps16
      go_wp2_with (fail)
      have HF := Aside0.mk hf
      clear hf z0 z1 z2 z3 z4 q0 q1 q2 q3 q4
      go_loopw [3] (fun v3 wr => ∃ j : Nat, j + 1 ≤ l0.length ∧ v3 = .int .i64 (j + 1 : Nat) ∧ Aside0 (∀ j' : Nat, j' < j → bothN l0 j' = true) ∧ Aside0 (Below w.heap.size w wr)) (fun v3 _ => l0.length - (intOf v3).toNat)
      case atStart => exact ⟨0, by omega, rfl, ⟨fun j hj => by omega⟩, ⟨Below.refl _ _⟩⟩
      case round =>
        obtain ⟨j, hi, rfl, HN, HB⟩ := hrel
        by_cases hlt : j + 1 < l0.length
        · obtain ⟨x0, x1, x2, x3, x4⟩ := HCR.out (j + 1) hlt
          obtain ⟨y0, _, _, _, _⟩ := HCR.out j (by omega)
          replace x0 := (HB.out.cell (World.block_lt_of_cell? w _ x0)).trans x0
          replace x1 := (HB.out.cell (World.block_lt_of_cell? w _ x1)).trans x1
          replace x2 := (HB.out.cell (World.block_lt_of_cell? w _ x2)).trans x2
          replace x3 := (HB.out.cell (World.block_lt_of_cell? w _ x3)).trans x3
          replace x4 := (HB.out.cell (World.block_lt_of_cell? w _ x4)).trans x4
          replace y0 := (HB.out.cell (World.block_lt_of_cell? w _ y0)).trans y0
          have HFF : Aside0 (bothN l0 j = false → rightN l0 = false) := ⟨fun hb => by
            rw [HF.out, Bool.eq_false_iff]
            intro hc
            have := List.all_eq_true.1 hc j (List.mem_range.2 (by omega))
            rw [hb] at this
            cases this⟩
          have HFJ := Aside0.mk (show firstN l0 j = (!(decide ((rd_T34 l0 ((j + 1 : Nat) : Int)).f0 ≤ (rd_T34 l0 (j : Int)).f0)) && isNameB (rd_T34 l0 ((j + 1 : Nat) : Int)).f2 && !(decide ((rd_T34 l0 ((j + 1 : Nat) : Int)).f4 > 1024)) && !((rd_T34 l0 ((j + 1 : Nat) : Int)).f3 && ((rd_T34 l0 ((j + 1 : Nat) : Int)).f4 != 0))) from rfl)
          have HSJ := Aside0.mk (show ∀ x, secondN l0 j x = (!(decide (getN l0 x.f1 < 0)) && (rd_T34 l0 (getN l0 x.f1)).f3 && (kidN l0 x.f1 x.f2 == ((j + 1 : Nat) : Int)) && decide (kidsN l0 x.f1 ≤ 12) && !(decide (depthN l0 8 ((j + 1 : Nat) : Int) 0 > 6))) from fun _ => rfl)
          have hw1 := wj1 j (by omega)
          have hw2 := wj2 j (by omega)
          have hg2 : (j + 1 < l0.length) = True := eq_true hlt
          have hg3 : (j < l0.length) = True := eq_true (by omega)
          generalize hX : rd_T34 l0 ((j + 1 : Nat) : Int) = x at x0 x1 x2 x3 x4 HFJ
          have HX := Aside0.mk hX
          clear hX
          generalize (rd_T34 l0 (j : Int)).f0 = yy at y0 HFJ
          go_upto_region 7 with (fail)
          have HB2 := Aside0.mk (below_alloc HB.out (.cells #[.int .u32 x.f0, .int .u32 x.f1, .string x.f2, .bool x.f3, .int .u32 x.f4] 34))
          have BK := Aside0.mk (heap_alloc_new wr (.cells #[.int .u32 x.f0, .int .u32 x.f1, .string x.f2, .bool x.f3, .int .u32 x.f4] 34))
          have y0' := ((below_alloc (Below.refl wr.heap.size wr) (.cells #[.int .u32 x.f0, .int .u32 x.f1, .string x.f2, .bool x.f3, .int .u32 x.f4] 34)).cell (World.block_lt_of_cell? _ _ y0)).trans y0
          clear x0 x1 x2 x3 x4 y0 HB
          generalize wr.alloc (.cells #[.int .u32 x.f0, .int .u32 x.f1, .string x.f2, .bool x.f3, .int .u32 x.f4] 34) = W at HB2 BK y0' ⊢
          generalize wr.heap.size = g at BK ⊢
          have k0 : W.cell? ⟨g, 0, none⟩ = some (.int .u32 x.f0) := (blk_cell BK.out 0).trans rfl
          have k1 : W.cell? ⟨g, 1, none⟩ = some (.int .u32 x.f1) := (blk_cell BK.out 1).trans rfl
          have k2 : W.cell? ⟨g, 2, none⟩ = some (.string x.f2) := (blk_cell BK.out 2).trans rfl
          have k3 : W.cell? ⟨g, 3, none⟩ = some (.bool x.f3) := (blk_cell BK.out 3).trans rfl
          have k4 : W.cell? ⟨g, 4, none⟩ = some (.int .u32 x.f4) := (blk_cell BK.out 4).trans rfl
          by_cases d1 : x.f0 ≤ yy
          · have e1 : decide (x.f0 ≤ yy) = true := decide_eq_true d1
            have hR := HFF.out (by unfold bothN; rw [HFJ.out]; simp [d1])
            clear HFF HFJ HSJ
            go_quiet ((go_at_call 50; exact Calls.quiet_of (rname_q _ _)))
            go_wp2_with (fail)
            (try rw [hR])
            go_ret
            exact ⟨rfl, pw_below_drewN HB2.out _⟩
          have e1 : decide (x.f0 ≤ yy) = false := decide_eq_false d1
          cases hn : isNameB x.f2
          · have hR := HFF.out (by unfold bothN; rw [HFJ.out]; simp [hn])
            clear HFF HFJ HSJ
            go_quiet ((go_at_call 50; exact Calls.quiet_of (rname_q _ _)))
            go_wp2_with (fail)
            (try rw [hR])
            go_ret
            exact ⟨rfl, pw_below_drewN HB2.out _⟩
          by_cases d3 : 1024 < x.f4
          · have e3 : decide (1024 < x.f4) = true := decide_eq_true d3
            have hR := HFF.out (by unfold bothN; rw [HFJ.out]; simp [d3])
            clear HFF HFJ HSJ
            go_quiet ((go_at_call 50; exact Calls.quiet_of (rname_q _ _)))
            go_wp2_with (fail)
            (try rw [hR])
            go_ret
            exact ⟨rfl, pw_below_drewN HB2.out _⟩
          have e3 : decide (1024 < x.f4) = false := decide_eq_false d3
          by_cases d4 : x.f3 = true ∧ x.f4 ≠ 0
          · have e4 : x.f3 = true := d4.1
            have e5 : (x.f4 != 0) = true := bne_iff_ne.2 d4.2
            rw [e4] at k3
            have hR := HFF.out (by unfold bothN; rw [HFJ.out]; simp [e4, d4.2])
            clear HFF HFJ HSJ
            go_quiet ((go_at_call 50; exact Calls.quiet_of (rname_q _ _)))
            go_wp2_with (fail)
            (try rw [hR])
            go_ret
            exact ⟨rfl, pw_below_drewN HB2.out _⟩
          have hT1 : firstN l0 j = true := by
            rw [HFJ.out, e1, hn]
            cases e4 : x.f3
            · simp [d3]
            · have : x.f4 = 0 := Classical.byContradiction fun hc => d4 ⟨e4, hc⟩
              simp [d3, this]
          cases d5 : x.f3
          · rw [d5] at k3
            go_quiet ((go_at_call 50; exact Calls.quiet_of (rname_q _ _)))
            go_upto_region 10 with (go_at_call 18; refine (rget_c (some ad) c0 l0 x.f1 _ (Kd.C_below HR0.out (pw_below_drewN HB2.out _)) HC0.out (by omega)).mono ?_; rintro e w4 ⟨rfl, hb4⟩; have HB4 := Aside0.mk (below_step (pw_below_drewN HB2.out _) hb4); have BK4 := Aside0.mk (blk_below (blk_drewN BK.out _) hb4); clear hb4)
            clear k0 k1 k2 k3 k4 y0' HFJ BK HB2
            have m1 : w4.cell? ⟨g, 1, none⟩ = some (.int .u32 x.f1) := (blk_cell BK4.out 1).trans rfl
            have m2 : w4.cell? ⟨g, 2, none⟩ = some (.string x.f2) := (blk_cell BK4.out 2).trans rfl
            have hrng := getN_range l0 x.f1
            by_cases n1 : getN l0 x.f1 < 0
            · have e1 : decide (getN l0 x.f1 < 0) = true := decide_eq_true n1
              have hR := HFF.out (by unfold bothN; rw [hT1, HX.out, HSJ.out]; simp [n1])
              clear HFF HSJ
              go_wp2_with (first | (go_at_call 45; refine (rkid_c (some ad) c0 l0 x.f1 x.f2 _ (Kd.C_below HR0.out HB4.out) HC0.out (by omega) (by omega)).mono ?_; rintro e w5 ⟨rfl, hb5⟩; have HB5 := Aside0.mk (below_step HB4.out hb5); have BK5 := Aside0.mk (blk_below BK4.out hb5); have m51 : w5.cell? ⟨g, 1, none⟩ = some (.int .u32 x.f1) := (blk_cell BK5.out 1).trans rfl; clear hb5) | (go_at_call 46; refine (rkids_c (some ad) c0 l0 x.f1 _ (Kd.C_below HR0.out HB5.out) HC0.out (by omega) (by omega)).mono ?_; rintro e w6 ⟨rfl, hb6⟩; have HB6 := Aside0.mk (below_step HB5.out hb6); clear hb6) | (go_at_call 49; refine (rdepth_c (some ad) c0 l0 (((j + 1 : Nat)) : Int) _ (Kd.C_below HR0.out HB6.out) HC0.out (by omega) (by omega) (by omega)).mono ?_; rintro e w7 ⟨rfl, hb7⟩; have HB7 := Aside0.mk (below_step HB6.out hb7); clear hb7))
              (try rw [hR])
              go_ret
              exact ⟨rfl, HB4.out⟩
            obtain ⟨P, hP⟩ : ∃ P : Nat, getN l0 x.f1 = (P : Int) := ⟨(getN l0 x.f1).toNat, by omega⟩
            rw [hP] at hrng n1
            have HSJx := Aside0.mk (HSJ.out x)
            rw [hP] at HSJx
            rw [hP]
            clear HSJ hP
            have HSJ := HSJx
            clear HSJx
            have hP1 : P < l0.length := by omega
            have hP2 : (P < l0.length) = True := eq_true hP1
            have eP : decide ((P : Int) < 0) = false := decide_eq_false (by omega)
            obtain ⟨_, _, _, u3, _⟩ := HCR.out P hP1
            replace u3 := (HB4.out.cell (World.block_lt_of_cell? w _ u3)).trans u3
            cases n2 : (rd_T34 l0 (P : Int)).f3
            · rw [n2] at u3
              have hR := HFF.out (by unfold bothN; rw [hT1, HX.out, HSJ.out]; simp [n2])
              clear HFF HSJ
              go_wp2_with (first | (go_at_call 45; refine (rkid_c (some ad) c0 l0 x.f1 x.f2 _ (Kd.C_below HR0.out HB4.out) HC0.out (by omega) (by omega)).mono ?_; rintro e w5 ⟨rfl, hb5⟩; have HB5 := Aside0.mk (below_step HB4.out hb5); have BK5 := Aside0.mk (blk_below BK4.out hb5); have m51 : w5.cell? ⟨g, 1, none⟩ = some (.int .u32 x.f1) := (blk_cell BK5.out 1).trans rfl; clear hb5) | (go_at_call 46; refine (rkids_c (some ad) c0 l0 x.f1 _ (Kd.C_below HR0.out HB5.out) HC0.out (by omega) (by omega)).mono ?_; rintro e w6 ⟨rfl, hb6⟩; have HB6 := Aside0.mk (below_step HB5.out hb6); clear hb6) | (go_at_call 49; refine (rdepth_c (some ad) c0 l0 (((j + 1 : Nat)) : Int) _ (Kd.C_below HR0.out HB6.out) HC0.out (by omega) (by omega) (by omega)).mono ?_; rintro e w7 ⟨rfl, hb7⟩; have HB7 := Aside0.mk (below_step HB6.out hb7); clear hb7))
              (try rw [hR])
              go_ret
              exact ⟨rfl, HB4.out⟩
            rw [n2] at u3
            by_cases n3 : kidN l0 x.f1 x.f2 = ((j + 1 : Nat) : Int)
            rotate_left
            · have e3 : (kidN l0 x.f1 x.f2 != ((j + 1 : Nat) : Int)) = true := bne_iff_ne.2 n3
              have e3' : (kidN l0 x.f1 x.f2 != (j : Int) + 1) = true := bne_iff_ne.2 (by omega)
              have hR := HFF.out (by unfold bothN; rw [hT1, HX.out, HSJ.out, beq_eq_false_iff_ne.mpr n3]; simp)
              clear HFF HSJ
              go_wp2_with (first | (go_at_call 45; refine (rkid_c (some ad) c0 l0 x.f1 x.f2 _ (Kd.C_below HR0.out HB4.out) HC0.out (by omega) (by omega)).mono ?_; rintro e w5 ⟨rfl, hb5⟩; have HB5 := Aside0.mk (below_step HB4.out hb5); have BK5 := Aside0.mk (blk_below BK4.out hb5); have m51 : w5.cell? ⟨g, 1, none⟩ = some (.int .u32 x.f1) := (blk_cell BK5.out 1).trans rfl; clear hb5) | (go_at_call 46; refine (rkids_c (some ad) c0 l0 x.f1 _ (Kd.C_below HR0.out HB5.out) HC0.out (by omega) (by omega)).mono ?_; rintro e w6 ⟨rfl, hb6⟩; have HB6 := Aside0.mk (below_step HB5.out hb6); clear hb6) | (go_at_call 49; refine (rdepth_c (some ad) c0 l0 (((j + 1 : Nat)) : Int) _ (Kd.C_below HR0.out HB6.out) HC0.out (by omega) (by omega) (by omega)).mono ?_; rintro e w7 ⟨rfl, hb7⟩; have HB7 := Aside0.mk (below_step HB6.out hb7); clear hb7))
              (try rw [hR])
              go_ret
              exact ⟨rfl, HB5.out⟩
            have e3 : (kidN l0 x.f1 x.f2 != ((j + 1 : Nat) : Int)) = false := by rw [n3]; exact bne_self_eq_false _
            have e3' : (kidN l0 x.f1 x.f2 != (j : Int) + 1) = false := by rw [n3, show ((j + 1 : Nat) : Int) = (j : Int) + 1 by omega]; exact bne_self_eq_false _
            have n3' := beq_iff_eq.mpr n3
            have HN3 := Aside0.mk n3'
            clear n3 n3'
            by_cases n4 : 12 < kidsN l0 x.f1
            · have e4 : decide ((12 : Int) < (kidsN l0 x.f1 : Nat)) = true := decide_eq_true (by omega)
              have hR := HFF.out (by unfold bothN; rw [hT1, HX.out, HSJ.out]; simp [Nat.not_le.mpr n4])
              clear HFF HSJ
              go_wp2_with (first | (go_at_call 45; refine (rkid_c (some ad) c0 l0 x.f1 x.f2 _ (Kd.C_below HR0.out HB4.out) HC0.out (by omega) (by omega)).mono ?_; rintro e w5 ⟨rfl, hb5⟩; have HB5 := Aside0.mk (below_step HB4.out hb5); have BK5 := Aside0.mk (blk_below BK4.out hb5); have m51 : w5.cell? ⟨g, 1, none⟩ = some (.int .u32 x.f1) := (blk_cell BK5.out 1).trans rfl; clear hb5) | (go_at_call 46; refine (rkids_c (some ad) c0 l0 x.f1 _ (Kd.C_below HR0.out HB5.out) HC0.out (by omega) (by omega)).mono ?_; rintro e w6 ⟨rfl, hb6⟩; have HB6 := Aside0.mk (below_step HB5.out hb6); clear hb6) | (go_at_call 49; refine (rdepth_c (some ad) c0 l0 (((j + 1 : Nat)) : Int) _ (Kd.C_below HR0.out HB6.out) HC0.out (by omega) (by omega) (by omega)).mono ?_; rintro e w7 ⟨rfl, hb7⟩; have HB7 := Aside0.mk (below_step HB6.out hb7); clear hb7))
              (try rw [hR])
              go_ret
              exact ⟨rfl, HB6.out⟩
            have e4 : decide ((12 : Int) < (kidsN l0 x.f1 : Nat)) = false := decide_eq_false (by omega)
            by_cases n5 : 6 < depthN l0 8 ((j + 1 : Nat) : Int) 0
            · have e5 : decide (6 < depthN l0 8 ((j + 1 : Nat) : Int) 0) = true := decide_eq_true n5
              have e5' : decide (6 < depthN l0 8 ((j : Int) + 1) 0) = true := e5
              have hR := HFF.out (by unfold bothN; rw [hT1, HX.out, HSJ.out, show decide (depthN l0 8 ((j + 1 : Nat) : Int) 0 > 6) = true from e5]; simp)
              clear HFF HSJ
              go_wp2_with (first | (go_at_call 45; refine (rkid_c (some ad) c0 l0 x.f1 x.f2 _ (Kd.C_below HR0.out HB4.out) HC0.out (by omega) (by omega)).mono ?_; rintro e w5 ⟨rfl, hb5⟩; have HB5 := Aside0.mk (below_step HB4.out hb5); have BK5 := Aside0.mk (blk_below BK4.out hb5); have m51 : w5.cell? ⟨g, 1, none⟩ = some (.int .u32 x.f1) := (blk_cell BK5.out 1).trans rfl; clear hb5) | (go_at_call 46; refine (rkids_c (some ad) c0 l0 x.f1 _ (Kd.C_below HR0.out HB5.out) HC0.out (by omega) (by omega)).mono ?_; rintro e w6 ⟨rfl, hb6⟩; have HB6 := Aside0.mk (below_step HB5.out hb6); clear hb6) | (go_at_call 49; refine (rdepth_c (some ad) c0 l0 (((j + 1 : Nat)) : Int) _ (Kd.C_below HR0.out HB6.out) HC0.out (by omega) (by omega) (by omega)).mono ?_; rintro e w7 ⟨rfl, hb7⟩; have HB7 := Aside0.mk (below_step HB6.out hb7); clear hb7))
              (try rw [hR])
              go_ret
              exact ⟨rfl, HB7.out⟩
            have e5 : decide (6 < depthN l0 8 ((j + 1 : Nat) : Int) 0) = false := decide_eq_false n5
            have e5' : decide (6 < depthN l0 8 ((j : Int) + 1) 0) = false := e5
            have hT2 : bothN l0 j = true := by
              unfold bothN
              rw [hT1, HX.out, HSJ.out, eP, n2, HN3.out, decide_eq_true (show kidsN l0 x.f1 ≤ 12 by omega)]
              rw [show decide (depthN l0 8 ((j + 1 : Nat) : Int) 0 > 6) = false from e5]
              rfl
            clear HSJ HFF
            go_wp2_with (first | (go_at_call 45; refine (rkid_c (some ad) c0 l0 x.f1 x.f2 _ (Kd.C_below HR0.out HB4.out) HC0.out (by omega) (by omega)).mono ?_; rintro e w5 ⟨rfl, hb5⟩; have HB5 := Aside0.mk (below_step HB4.out hb5); have BK5 := Aside0.mk (blk_below BK4.out hb5); have m51 : w5.cell? ⟨g, 1, none⟩ = some (.int .u32 x.f1) := (blk_cell BK5.out 1).trans rfl; clear hb5) | (go_at_call 46; refine (rkids_c (some ad) c0 l0 x.f1 _ (Kd.C_below HR0.out HB5.out) HC0.out (by omega) (by omega)).mono ?_; rintro e w6 ⟨rfl, hb6⟩; have HB6 := Aside0.mk (below_step HB5.out hb6); clear hb6) | (go_at_call 49; refine (rdepth_c (some ad) c0 l0 (((j + 1 : Nat)) : Int) _ (Kd.C_below HR0.out HB6.out) HC0.out (by omega) (by omega) (by omega)).mono ?_; rintro e w7 ⟨rfl, hb7⟩; have HB7 := Aside0.mk (below_step HB6.out hb7); clear hb7))
            refine ⟨⟨j + 1, by omega, by go_num, ⟨fun j' hj' => ?_⟩, HB7⟩, by simp [intOf]; omega⟩
            rcases Nat.lt_or_ge j' j with h5 | h5
            · exact HN.out j' h5
            · obtain rfl : j' = j := by omega
              exact hT2
          · rw [d5] at k3
            have d6 : x.f4 = 0 := Classical.byContradiction fun hc => d4 ⟨d5, hc⟩
            have e6 : (x.f4 != 0) = false := by rw [d6]; rfl
            rw [d6] at k4
            go_quiet ((go_at_call 50; exact Calls.quiet_of (rname_q _ _)))
            go_upto_region 10 with (go_at_call 18; refine (rget_c (some ad) c0 l0 x.f1 _ (Kd.C_below HR0.out (pw_below_drewN HB2.out _)) HC0.out (by omega)).mono ?_; rintro e w4 ⟨rfl, hb4⟩; have HB4 := Aside0.mk (below_step (pw_below_drewN HB2.out _) hb4); have BK4 := Aside0.mk (blk_below (blk_drewN BK.out _) hb4); clear hb4)
            clear k0 k1 k2 k3 k4 y0' HFJ BK HB2
            have m1 : w4.cell? ⟨g, 1, none⟩ = some (.int .u32 x.f1) := (blk_cell BK4.out 1).trans rfl
            have m2 : w4.cell? ⟨g, 2, none⟩ = some (.string x.f2) := (blk_cell BK4.out 2).trans rfl
            have hrng := getN_range l0 x.f1
            by_cases n1 : getN l0 x.f1 < 0
            · have e1 : decide (getN l0 x.f1 < 0) = true := decide_eq_true n1
              have hR := HFF.out (by unfold bothN; rw [hT1, HX.out, HSJ.out]; simp [n1])
              clear HFF HSJ
              go_wp2_with (first | (go_at_call 45; refine (rkid_c (some ad) c0 l0 x.f1 x.f2 _ (Kd.C_below HR0.out HB4.out) HC0.out (by omega) (by omega)).mono ?_; rintro e w5 ⟨rfl, hb5⟩; have HB5 := Aside0.mk (below_step HB4.out hb5); have BK5 := Aside0.mk (blk_below BK4.out hb5); have m51 : w5.cell? ⟨g, 1, none⟩ = some (.int .u32 x.f1) := (blk_cell BK5.out 1).trans rfl; clear hb5) | (go_at_call 46; refine (rkids_c (some ad) c0 l0 x.f1 _ (Kd.C_below HR0.out HB5.out) HC0.out (by omega) (by omega)).mono ?_; rintro e w6 ⟨rfl, hb6⟩; have HB6 := Aside0.mk (below_step HB5.out hb6); clear hb6) | (go_at_call 49; refine (rdepth_c (some ad) c0 l0 (((j + 1 : Nat)) : Int) _ (Kd.C_below HR0.out HB6.out) HC0.out (by omega) (by omega) (by omega)).mono ?_; rintro e w7 ⟨rfl, hb7⟩; have HB7 := Aside0.mk (below_step HB6.out hb7); clear hb7))
              (try rw [hR])
              go_ret
              exact ⟨rfl, HB4.out⟩
            obtain ⟨P, hP⟩ : ∃ P : Nat, getN l0 x.f1 = (P : Int) := ⟨(getN l0 x.f1).toNat, by omega⟩
            rw [hP] at hrng n1
            have HSJx := Aside0.mk (HSJ.out x)
            rw [hP] at HSJx
            rw [hP]
            clear HSJ hP
            have HSJ := HSJx
            clear HSJx
            have hP1 : P < l0.length := by omega
            have hP2 : (P < l0.length) = True := eq_true hP1
            have eP : decide ((P : Int) < 0) = false := decide_eq_false (by omega)
            obtain ⟨_, _, _, u3, _⟩ := HCR.out P hP1
            replace u3 := (HB4.out.cell (World.block_lt_of_cell? w _ u3)).trans u3
            cases n2 : (rd_T34 l0 (P : Int)).f3
            · rw [n2] at u3
              have hR := HFF.out (by unfold bothN; rw [hT1, HX.out, HSJ.out]; simp [n2])
              clear HFF HSJ
              go_wp2_with (first | (go_at_call 45; refine (rkid_c (some ad) c0 l0 x.f1 x.f2 _ (Kd.C_below HR0.out HB4.out) HC0.out (by omega) (by omega)).mono ?_; rintro e w5 ⟨rfl, hb5⟩; have HB5 := Aside0.mk (below_step HB4.out hb5); have BK5 := Aside0.mk (blk_below BK4.out hb5); have m51 : w5.cell? ⟨g, 1, none⟩ = some (.int .u32 x.f1) := (blk_cell BK5.out 1).trans rfl; clear hb5) | (go_at_call 46; refine (rkids_c (some ad) c0 l0 x.f1 _ (Kd.C_below HR0.out HB5.out) HC0.out (by omega) (by omega)).mono ?_; rintro e w6 ⟨rfl, hb6⟩; have HB6 := Aside0.mk (below_step HB5.out hb6); clear hb6) | (go_at_call 49; refine (rdepth_c (some ad) c0 l0 (((j + 1 : Nat)) : Int) _ (Kd.C_below HR0.out HB6.out) HC0.out (by omega) (by omega) (by omega)).mono ?_; rintro e w7 ⟨rfl, hb7⟩; have HB7 := Aside0.mk (below_step HB6.out hb7); clear hb7))
              (try rw [hR])
              go_ret
              exact ⟨rfl, HB4.out⟩
            rw [n2] at u3
            by_cases n3 : kidN l0 x.f1 x.f2 = ((j + 1 : Nat) : Int)
            rotate_left
            · have e3 : (kidN l0 x.f1 x.f2 != ((j + 1 : Nat) : Int)) = true := bne_iff_ne.2 n3
              have e3' : (kidN l0 x.f1 x.f2 != (j : Int) + 1) = true := bne_iff_ne.2 (by omega)
              have hR := HFF.out (by unfold bothN; rw [hT1, HX.out, HSJ.out, beq_eq_false_iff_ne.mpr n3]; simp)
              clear HFF HSJ
              go_wp2_with (first | (go_at_call 45; refine (rkid_c (some ad) c0 l0 x.f1 x.f2 _ (Kd.C_below HR0.out HB4.out) HC0.out (by omega) (by omega)).mono ?_; rintro e w5 ⟨rfl, hb5⟩; have HB5 := Aside0.mk (below_step HB4.out hb5); have BK5 := Aside0.mk (blk_below BK4.out hb5); have m51 : w5.cell? ⟨g, 1, none⟩ = some (.int .u32 x.f1) := (blk_cell BK5.out 1).trans rfl; clear hb5) | (go_at_call 46; refine (rkids_c (some ad) c0 l0 x.f1 _ (Kd.C_below HR0.out HB5.out) HC0.out (by omega) (by omega)).mono ?_; rintro e w6 ⟨rfl, hb6⟩; have HB6 := Aside0.mk (below_step HB5.out hb6); clear hb6) | (go_at_call 49; refine (rdepth_c (some ad) c0 l0 (((j + 1 : Nat)) : Int) _ (Kd.C_below HR0.out HB6.out) HC0.out (by omega) (by omega) (by omega)).mono ?_; rintro e w7 ⟨rfl, hb7⟩; have HB7 := Aside0.mk (below_step HB6.out hb7); clear hb7))
              (try rw [hR])
              go_ret
              exact ⟨rfl, HB5.out⟩
            have e3 : (kidN l0 x.f1 x.f2 != ((j + 1 : Nat) : Int)) = false := by rw [n3]; exact bne_self_eq_false _
            have e3' : (kidN l0 x.f1 x.f2 != (j : Int) + 1) = false := by rw [n3, show ((j + 1 : Nat) : Int) = (j : Int) + 1 by omega]; exact bne_self_eq_false _
            have n3' := beq_iff_eq.mpr n3
            have HN3 := Aside0.mk n3'
            clear n3 n3'
            by_cases n4 : 12 < kidsN l0 x.f1
            · have e4 : decide ((12 : Int) < (kidsN l0 x.f1 : Nat)) = true := decide_eq_true (by omega)
              have hR := HFF.out (by unfold bothN; rw [hT1, HX.out, HSJ.out]; simp [Nat.not_le.mpr n4])
              clear HFF HSJ
              go_wp2_with (first | (go_at_call 45; refine (rkid_c (some ad) c0 l0 x.f1 x.f2 _ (Kd.C_below HR0.out HB4.out) HC0.out (by omega) (by omega)).mono ?_; rintro e w5 ⟨rfl, hb5⟩; have HB5 := Aside0.mk (below_step HB4.out hb5); have BK5 := Aside0.mk (blk_below BK4.out hb5); have m51 : w5.cell? ⟨g, 1, none⟩ = some (.int .u32 x.f1) := (blk_cell BK5.out 1).trans rfl; clear hb5) | (go_at_call 46; refine (rkids_c (some ad) c0 l0 x.f1 _ (Kd.C_below HR0.out HB5.out) HC0.out (by omega) (by omega)).mono ?_; rintro e w6 ⟨rfl, hb6⟩; have HB6 := Aside0.mk (below_step HB5.out hb6); clear hb6) | (go_at_call 49; refine (rdepth_c (some ad) c0 l0 (((j + 1 : Nat)) : Int) _ (Kd.C_below HR0.out HB6.out) HC0.out (by omega) (by omega) (by omega)).mono ?_; rintro e w7 ⟨rfl, hb7⟩; have HB7 := Aside0.mk (below_step HB6.out hb7); clear hb7))
              (try rw [hR])
              go_ret
              exact ⟨rfl, HB6.out⟩
            have e4 : decide ((12 : Int) < (kidsN l0 x.f1 : Nat)) = false := decide_eq_false (by omega)
            by_cases n5 : 6 < depthN l0 8 ((j + 1 : Nat) : Int) 0
            · have e5 : decide (6 < depthN l0 8 ((j + 1 : Nat) : Int) 0) = true := decide_eq_true n5
              have e5' : decide (6 < depthN l0 8 ((j : Int) + 1) 0) = true := e5
              have hR := HFF.out (by unfold bothN; rw [hT1, HX.out, HSJ.out, show decide (depthN l0 8 ((j + 1 : Nat) : Int) 0 > 6) = true from e5]; simp)
              clear HFF HSJ
              go_wp2_with (first | (go_at_call 45; refine (rkid_c (some ad) c0 l0 x.f1 x.f2 _ (Kd.C_below HR0.out HB4.out) HC0.out (by omega) (by omega)).mono ?_; rintro e w5 ⟨rfl, hb5⟩; have HB5 := Aside0.mk (below_step HB4.out hb5); have BK5 := Aside0.mk (blk_below BK4.out hb5); have m51 : w5.cell? ⟨g, 1, none⟩ = some (.int .u32 x.f1) := (blk_cell BK5.out 1).trans rfl; clear hb5) | (go_at_call 46; refine (rkids_c (some ad) c0 l0 x.f1 _ (Kd.C_below HR0.out HB5.out) HC0.out (by omega) (by omega)).mono ?_; rintro e w6 ⟨rfl, hb6⟩; have HB6 := Aside0.mk (below_step HB5.out hb6); clear hb6) | (go_at_call 49; refine (rdepth_c (some ad) c0 l0 (((j + 1 : Nat)) : Int) _ (Kd.C_below HR0.out HB6.out) HC0.out (by omega) (by omega) (by omega)).mono ?_; rintro e w7 ⟨rfl, hb7⟩; have HB7 := Aside0.mk (below_step HB6.out hb7); clear hb7))
              (try rw [hR])
              go_ret
              exact ⟨rfl, HB7.out⟩
            have e5 : decide (6 < depthN l0 8 ((j + 1 : Nat) : Int) 0) = false := decide_eq_false n5
            have e5' : decide (6 < depthN l0 8 ((j : Int) + 1) 0) = false := e5
            have hT2 : bothN l0 j = true := by
              unfold bothN
              rw [hT1, HX.out, HSJ.out, eP, n2, HN3.out, decide_eq_true (show kidsN l0 x.f1 ≤ 12 by omega)]
              rw [show decide (depthN l0 8 ((j + 1 : Nat) : Int) 0 > 6) = false from e5]
              rfl
            clear HSJ HFF
            go_wp2_with (first | (go_at_call 45; refine (rkid_c (some ad) c0 l0 x.f1 x.f2 _ (Kd.C_below HR0.out HB4.out) HC0.out (by omega) (by omega)).mono ?_; rintro e w5 ⟨rfl, hb5⟩; have HB5 := Aside0.mk (below_step HB4.out hb5); have BK5 := Aside0.mk (blk_below BK4.out hb5); have m51 : w5.cell? ⟨g, 1, none⟩ = some (.int .u32 x.f1) := (blk_cell BK5.out 1).trans rfl; clear hb5) | (go_at_call 46; refine (rkids_c (some ad) c0 l0 x.f1 _ (Kd.C_below HR0.out HB5.out) HC0.out (by omega) (by omega)).mono ?_; rintro e w6 ⟨rfl, hb6⟩; have HB6 := Aside0.mk (below_step HB5.out hb6); clear hb6) | (go_at_call 49; refine (rdepth_c (some ad) c0 l0 (((j + 1 : Nat)) : Int) _ (Kd.C_below HR0.out HB6.out) HC0.out (by omega) (by omega) (by omega)).mono ?_; rintro e w7 ⟨rfl, hb7⟩; have HB7 := Aside0.mk (below_step HB6.out hb7); clear hb7))
            refine ⟨⟨j + 1, by omega, by go_num, ⟨fun j' hj' => ?_⟩, HB7⟩, by simp [intOf]; omega⟩
            rcases Nat.lt_or_ge j' j with h5 | h5
            · exact HN.out j' h5
            · obtain rfl : j' = j := by omega
              exact hT2
        · have hlj : l0.length = j + 1 := by omega
          have hT : rightN l0 = true := by
            rw [HF.out, hlj]
            exact List.all_eq_true.2 fun q hq => HN.out q (by have := List.mem_range.1 hq; omega)
          go_wp2_with (fail)
          (try rw [hT])
          go_ret
          exact ⟨rfl, HB.out⟩
  · rw [if_neg hwf] at h
    cases h
end Go.Proofs.YthbdgahmlggpmaaDoor.Q
/- The document's Right and the program's Right are the same, in plain Lean. -/

namespace Go.Proofs.YthbdgahmlggpmaaDoor.Q
open Go.RowKit Go.Proofs.YthbdgahmlggpmaaDoorW.PrintWords Go.Proofs.YthbdgahmlggpmaaDoorW.PrintLast
set_option linter.unusedVariables false
set_option linter.unusedSimpArgs false
theorem getN_cases (l : List S34) (id : Int) : (getN l id = -1 ∧ findI l id = none) ∨ (∃ p : Nat, ∃ h : p < l.length, getN l id = (p : Int) ∧ findI l id = some l[p] ∧ l[p].f0 = id) := by
  unfold getN findI
  cases hf : l.findIdx? (fun x => x.f0 == id) with
  | none =>
    left
    refine ⟨rfl, ?_⟩
    rw [List.findIdx?_eq_none_iff] at hf
    rw [List.find?_eq_none]
    intro x hx
    have := hf x hx
    simp_all
  | some p =>
    right
    rw [List.findIdx?_eq_some_iff_getElem] at hf
    obtain ⟨h, h1, h2⟩ := hf
    refine ⟨p, h, by simp [idxI], ?_, by simpa using h1⟩
    rw [List.find?_eq_some_iff_getElem]
    exact ⟨h1, p, h, rfl, fun j hj => by have := h2 j hj; simpa using this⟩
/-- A list that rises. -/
def Up (l : List S34) : Prop := ∀ (a b : Nat) (hab : a < b) (hb : b < l.length), (l[a]'(by omega)).f0 < l[b].f0
theorem up_of_upB (l : List S34) (h : upB (-1) l = true) : Up l := by
  intro a b hab hb
  have := upB_lt l _ h a b hab hb
  rwa [rd34_get _ _ (by omega), rd34_get _ _ hb] at this
theorem Up.inj {l : List S34} (h : Up l) {a b : Nat} (ha : a < l.length) (hb : b < l.length) (he : l[a].f0 = l[b].f0) : a = b := by
  rcases Nat.lt_trichotomy a b with h1 | h1 | h1
  · have := h a b h1 hb; omega
  · exact h1
  · have := h b a h1 ha; omega
theorem Up.find {l : List S34} (h : Up l) {a : Nat} (ha : a < l.length) : findI l l[a].f0 = some l[a] ∧ getN l l[a].f0 = (a : Int) := by
  rcases getN_cases l l[a].f0 with ⟨h1, h2⟩ | ⟨p, hp, h1, h2, h3⟩
  · unfold findI at h2
    rw [List.find?_eq_none] at h2
    have := h2 l[a] (List.getElem_mem ha)
    simp at this
  · have := h.inj hp ha h3
    subst this
    exact ⟨h2, h1⟩
theorem filter_len_eq {l : List S34} (hp : 0 < l.length) (hr : l[0].f0 = 1) (hu : Up l) (d : Int) : (kidsI l d).length = kidsN l d := by
  unfold kidsI kidsN
  obtain ⟨x, t, rfl⟩ : ∃ x t, l = x :: t := by cases l with | nil => simp at hp | cons x t => exact ⟨x, t, rfl⟩
  simp only [List.getElem_cons_zero] at hr
  have h1 : isKid d x = false := by simp [isKid, hr]
  rw [List.filter_cons_of_neg (by simp [h1]), List.drop_one, List.tail_cons]
  congr 1
  apply List.filter_congr
  intro y hy
  obtain ⟨b, hb, rfl⟩ := List.mem_iff_getElem.1 hy
  have := hu 0 (b + 1) (by omega) (by simp; omega)
  simp only [List.getElem_cons_zero, List.getElem_cons_succ] at this
  have h2 : (t[b].f0 == 1) = false := by rw [beq_eq_false_iff_ne]; omega
  simp [isKid, h2]
theorem kid_cases {l : List S34} (hp : 0 < l.length) (hr : l[0].f0 = 1) (hu : Up l) (d : Int) (nm : ByteArray) :
    (kidN l d nm = -1 ∧ kidI l d nm = none) ∨ (∃ p : Nat, ∃ h : p < l.length, 0 < p ∧ kidN l d nm = (p : Int) ∧ kidI l d nm = some l[p] ∧ l[p].f1 = d ∧ l[p].f2.toList = nm.toList) := by
  obtain ⟨x, t, rfl⟩ : ∃ x t, l = x :: t := by cases l with | nil => simp at hp | cons x t => exact ⟨x, t, rfl⟩
  simp only [List.getElem_cons_zero] at hr
  have h1 : isKid d x = false := by simp [isKid, hr]
  have h2 : ∀ y ∈ t, (isKid d y && y.f2.toList == nm.toList) = (y.f1 == d && y.f2.toList == nm.toList) := by
    intro y hy
    obtain ⟨b, hb, rfl⟩ := List.mem_iff_getElem.1 hy
    have := hu 0 (b + 1) (by omega) (by simp; omega)
    simp only [List.getElem_cons_zero, List.getElem_cons_succ] at this
    have h2 : (t[b].f0 == 1) = false := by rw [beq_eq_false_iff_ne]; omega
    simp [isKid, h2]
  have h3 : kidI (x :: t) d nm = t.find? (fun y => y.f1 == d && y.f2.toList == nm.toList) := by
    unfold kidI
    rw [List.find?_cons_of_neg (by simp [h1])]
    clear hu hp
    induction t with
    | nil => rfl
    | cons y t ih =>
      have hy := h2 y (List.mem_cons_self ..)
      simp only [List.find?_cons]
      rw [hy, ih (fun z hz => h2 z (List.mem_cons_of_mem _ hz))]
  have h4 : kidN (x :: t) d nm = idxI 1 (t.findIdx? (fun y => y.f1 == d && y.f2.toList == nm.toList)) := rfl
  rw [h3, h4]
  cases hf : t.findIdx? (fun y => y.f1 == d && y.f2.toList == nm.toList) with
  | none =>
    left
    refine ⟨rfl, ?_⟩
    rw [List.findIdx?_eq_none_iff] at hf
    rw [List.find?_eq_none]
    intro y hy
    have := hf y hy
    simp_all
  | some p =>
    right
    rw [List.findIdx?_eq_some_iff_getElem] at hf
    obtain ⟨h, h5, h6⟩ := hf
    refine ⟨p + 1, by simp; omega, by omega, by simp only [idxI]; omega, ?_, ?_⟩
    · rw [List.find?_eq_some_iff_getElem]
      exact ⟨h5, p, h, rfl, fun j hj => (Bool.not_eq_true' _).mpr (Bool.eq_false_iff.mpr (h6 j hj))⟩
    · simpa using h5
theorem depth_cases {l : List S34} (hp : 0 < l.length) (hr : l[0].f0 = 1) (hu : Up l) : ∀ (m a : Nat) (ha : a < l.length) (n : Int), n = 7 - (m : Int) → m ≤ 7 →
    ((0 ≤ depthI l m n l[a].f0) ↔ depthN l (m + 1) (a : Int) n ≤ 6) := by
  intro m
  induction m with
  | zero =>
    intro a ha n hn hm
    have h7 : n = 7 := by omega
    subst h7
    simp only [depthI, depthN]
    constructor
    · intro h; omega
    · intro h
      split at h <;> (try split at h) <;> (try split at h) <;> omega
  | succ m ih =>
    intro a ha n hn hm
    rw [depthI, depthN, rd34_get _ _ ha]
    by_cases h1 : l[a].f0 = 1
    · rw [if_pos h1, if_pos h1]
      omega
    · rw [if_neg h1, if_neg h1, (hu.find ha).1]
      simp only
      rcases getN_cases l l[a].f1 with ⟨h2, h3⟩ | ⟨p, hp2, h2, h3, h4⟩
      · rw [h2, if_pos (by omega)]
        have hne : l[a].f1 ≠ 1 := by
          intro he
          rw [he, ← hr, (hu.find hp).1] at h3
          simp at h3
        cases m with
        | zero => simp [depthI]
        | succ m =>
          rw [depthI, if_neg hne, h3]
          simp
      · rw [h2, if_neg (by omega), if_neg (by omega), ← h4]
        exact ih p hp2 (n + 1) (by omega) (by omega)
theorem second_eq {l : List S34} (hp : 0 < l.length) (hr : l[0].f0 = 1) (hu : Up l) (j : Nat) (hj : j + 1 < l.length) : secondN l j (rd_T34 l ((j + 1 : Nat) : Int)) = secondB l (rd_T34 l ((j + 1 : Nat) : Int)) := by
  rw [rd34_get _ _ hj]
  unfold secondN secondB
  rw [filter_len_eq hp hr hu]
  have hd : decide (0 ≤ depthI l 7 0 l[j + 1].f0) = !(decide (depthN l 8 ((j + 1 : Nat) : Int) 0 > 6)) := by
    have := depth_cases hp hr hu 7 (j + 1) hj 0 (by omega) (by omega)
    rw [show 7 + 1 = 8 from rfl] at this
    by_cases h : 0 ≤ depthI l 7 0 l[j + 1].f0
    · have h2 := this.1 h
      rw [decide_eq_true h, decide_eq_false (by omega)]
      rfl
    · have h2 : ¬ depthN l 8 ((j + 1 : Nat) : Int) 0 ≤ 6 := fun h3 => h (this.2 h3)
      rw [decide_eq_false h, decide_eq_true (by omega)]
      rfl
  rw [hd]
  have hk : (kidN l l[j + 1].f1 l[j + 1].f2 == ((j + 1 : Nat) : Int)) = ((gI (kidI l l[j + 1].f1 l[j + 1].f2)).f0 == l[j + 1].f0) := by
    have h0 := hu 0 (j + 1) (by omega) hj
    rcases kid_cases hp hr hu l[j + 1].f1 l[j + 1].f2 with ⟨h1, h2⟩ | ⟨p, hp2, h1, h2, h3, h4⟩
    · rw [h1, h2]
      have : (gI none).f0 = 0 := rfl
      rw [this, beq_eq_false_iff_ne.2 (by omega), beq_eq_false_iff_ne.2 (by omega)]
    · rw [h2, h3]
      have : (gI (some l[p])) = l[p] := rfl
      rw [this]
      by_cases he : p = j + 1
      · subst he
        simp
      · rw [beq_eq_false_iff_ne.2 (by omega), beq_eq_false_iff_ne.2 (fun hx => he (hu.inj hp2 hj hx))]
  rw [hk]
  rcases getN_cases l l[j + 1].f1 with ⟨h1, h2⟩ | ⟨p, hp2, h1, h2, h3⟩
  · rw [h1, h2]
    simp
  · rw [h1, h2, rd34_get _ _ hp2]
    have : (gI (some l[p])) = l[p] := rfl
    rw [this, decide_eq_false (by omega)]
    simp only [Option.isSome_some, Bool.not_false, Bool.true_and]
    cases l[p].f3 <;> cases ((gI (kidI l l[j + 1].f1 l[j + 1].f2)).f0 == l[j + 1].f0) <;> cases decide (kidsN l l[j + 1].f1 ≤ 12) <;> cases (!decide (depthN l 8 ((j + 1 : Nat) : Int) 0 > 6)) <;> rfl
theorem first_eq {l : List S34} (hw : wfL l = true) (j : Nat) (hj : j + 1 < l.length) : firstN l j = firstB l j := by
  unfold firstN firstB
  have h := (wfI_iff _).1 (List.all_eq_true.1 hw _ (List.getElem_mem hj))
  rw [rd34_get _ _ hj]
  have : (l[j + 1].f4 != 0) = decide (l[j + 1].f4 > 0) := by
    by_cases h0 : l[j + 1].f4 = 0
    · rw [h0]; rfl
    · rw [decide_eq_true (by omega)]
      simpa using h0
  rw [this]
theorem rightN_eq (l : List S34) (hw : wfL l = true) : rightN l = rightB l := by
  unfold rightN rightB
  by_cases h1 : (decide (1 ≤ l.length) && decide (l.length ≤ 40) && rootB (rd_T34 l 0)) = true
  · rw [h1, Bool.true_and, Bool.true_and]
    simp only [Bool.and_eq_true, decide_eq_true_eq] at h1
    have hp : 0 < l.length := by omega
    have hr : l[0].f0 = 1 := by
      have h2 := h1.2
      rw [show (0 : Int) = ((0 : Nat) : Int) from rfl, rd34_get _ _ hp] at h2
      simp only [rootB, Bool.and_eq_true, beq_iff_eq] at h2
      exact h2.1.1.1.1
    rw [Bool.eq_iff_iff]
    simp only [Bool.and_eq_true, List.all_eq_true, List.mem_range, bothN]
    constructor
    · intro h
      have hf : ∀ j, j < l.length - 1 → firstB l j = true := fun j hj => by rw [← first_eq hw j (by omega)]; exact (h j hj).1
      have hu := up_of_upB l (up_of_first l hw (fun j hj => hf j (by omega)))
      exact ⟨hf, fun j hj => by rw [← second_eq hp hr hu j (by omega)]; exact (h j hj).2⟩
    · intro h
      have hu := up_of_upB l (up_of_first l hw (fun j hj => h.1 j (by omega)))
      exact fun j hj => ⟨by rw [first_eq hw j (by omega)]; exact h.1 j hj, by rw [second_eq hp hr hu j (by omega)]; exact h.2 j hj⟩
  · rw [Bool.not_eq_true] at h1
    rw [h1, Bool.false_and, Bool.false_and, Bool.false_and]
end Go.Proofs.YthbdgahmlggpmaaDoor.Q
/- The document's Split and the program's Split are the same, in plain Lean. -/






namespace Go.Proofs.YthbdgahmlggpmaaDoor.Q
open Go.RowKit Go.Proofs.YthbdgahmlggpmaaDoorW.PrintWords Go.Proofs.YthbdgahmlggpmaaDoorW.PrintLast
set_option linter.unusedVariables false
set_option linter.unusedSimpArgs false
theorem ix_eq (s : ByteArray) : Lib.indexB s sl = Lib.indexByte s.data.toList 47 := Lib.index_one _ _
theorem bt_opt (s : ByteArray) (j : Nat) (h : j < s.size) : (bt s (j : Int) = 47 ↔ s.data.toList[j]? = some 47) := by
  have hj : j < s.data.toList.length := by rw [Array.length_toList]; exact h
  unfold bt
  rw [dif_pos (show ((j : Int)).toNat < s.size from h), List.getElem?_eq_getElem hj]
  have he : s.data.toList[j] = s[j] := rfl
  rw [he]
  simp only [Int.toNat_natCast, Option.some.injEq]
  constructor
  · intro h2
    apply UInt8.toNat_inj.1
    have : (47 : UInt8).toNat = 47 := rfl
    rw [this]
    omega
  · intro h2
    rw [h2]
    rfl
theorem ix_none (s : ByteArray) (h : Lib.indexB s sl = -1) (j : Nat) (hj : j < s.size) : ¬ bt s (j : Int) = 47 := by
  rw [ix_eq] at h
  intro h2
  exact Lib.indexByte_none h j ((bt_opt s j hj).1 h2)
theorem ix_some (s : ByteArray) (p : Nat) (h : Lib.indexB s sl = p) : p < s.size ∧ bt s (p : Int) = 47 ∧ ∀ j : Nat, j < p → ¬ bt s (j : Int) = 47 := by
  rw [ix_eq] at h
  obtain ⟨h1, h2⟩ := Lib.indexByte_some h
  have hp : p < s.size := by
    obtain ⟨h3, _⟩ := List.getElem?_eq_some_iff.1 h1
    rw [Array.length_toList] at h3
    exact h3
  exact ⟨hp, (bt_opt s p hp).2 h1, fun j hj h3 => h2 j hj ((bt_opt s j (by omega)).1 h3)⟩
theorem bt_ext (s : ByteArray) (a j : Nat) (h : a + j < s.size) : bt (s.extract a s.size) (j : Int) = bt s ((a + j : Nat) : Int) := by
  unfold bt
  have h1 : ((j : Int)).toNat < (s.extract a s.size).size := by rw [ByteArray.size_extract]; simp only [Int.toNat_natCast]; omega
  rw [dif_pos h1, dif_pos (show (((a + j : Nat) : Int)).toNat < s.size from h)]
  simp only [Int.toNat_natCast]
  rw [ByteArray.getElem_extract]
theorem ext_ext (s : ByteArray) (a b c : Nat) (h : a + c ≤ s.size) : (s.extract a s.size).extract b c = s.extract (a + b) (a + c) := by
  rw [ByteArray.extract_extract]
  congr 1
  omega
theorem pieces_miss (s : ByteArray) (h : Lib.indexB s sl = -1) : pieces s = [s] := Lib.splitB_miss sl 0 _ s h
theorem pieces_hit (s : ByteArray) (p : Nat) (h : Lib.indexB s sl = p) : pieces s = s.extract 0 p :: pieces (s.extract (p + 1) s.size) := by
  unfold pieces
  rw [Lib.countB_hit s sl p (by decide) h, Nat.add_comm 1, Lib.splitB_hit sl 0 _ s p h]
  rfl
def rfin (o : List ByteArray) : List ByteArray × Bool := if (o.length : Int) < 1 then ([], false) else if (o.length : Int) > 6 then ([], false) else (o, true)
theorem l1_step (s : ByteArray) (out : List ByteArray) (i : Nat) (hs : s.size ≤ 100000) (k j : Nat) (hj : j < s.size) (hn : ¬ bt s (j : Int) = 47) :
    r10_Split.l1 (k + 1) s out (i : Int) (j : Int) = r10_Split.l1 k s out (i : Int) ((j + 1 : Nat) : Int) := by
  rw [r10_Split.l1, if_pos (by omega), if_pos (by omega), if_neg hn, wrap_in (by omega) (by omega)]
  rfl
theorem l1_go (s : ByteArray) (out : List ByteArray) (i : Nat) (hs : s.size ≤ 100000) : ∀ (d k j : Nat), j + d ≤ s.size → (∀ x : Nat, j ≤ x → x < j + d → ¬ bt s (x : Int) = 47) →
    r10_Split.l1 (k + d) s out (i : Int) (j : Int) = r10_Split.l1 k s out (i : Int) ((j + d : Nat) : Int) := by
  intro d
  induction d with
  | zero => intro k j _ _; rfl
  | succ d ih =>
    intro k j h1 h2
    rw [show k + (d + 1) = (k + d) + 1 by omega, l1_step s out i hs _ j (by omega) (h2 j (by omega) (by omega)), ih k (j + 1) (by omega) (fun x h3 h4 => h2 x (by omega) (by omega))]
    congr 1
    omega
theorem l1_end (s : ByteArray) (out : List ByteArray) (i : Nat) (hs : s.size ≤ 100000) (ho : out.length ≤ 100000) (k j : Nat) (hk : 10 < k) (hij : i + 1 ≤ j) (hj : j ≤ s.size) (hn : j < s.size → bt s (j : Int) = 47) :
    r10_Split.l1 (k + 1) s out (i : Int) (j : Int) = if isNameB (s.extract (i + 1) j) = true then r10_Split.l0 k s (out ++ [s.extract (i + 1) j]) (j : Int) else some ([], false) := by
  have e1 : (wrap64 ((i : Int) + 1)) = ((i + 1 : Nat) : Int) := by rw [wrap_in (by omega) (by omega)]; rfl
  have e2 : (((i + 1 : Nat) : Int)).toNat = i + 1 := rfl
  have e3 : ((j : Int)).toNat = j := rfl
  rw [r10_Split.l1]
  by_cases h : j < s.size
  · rw [if_pos (by omega), if_pos (by omega), if_pos (hn h), e1, e2, e3, if_pos (by omega), if_pos (by omega), if_pos (by omega), rname_f _ _ hk, Option.bind_some]
    by_cases hb : isNameB (s.extract (i + 1) j) = true
    · rw [if_pos hb, if_pos (by omega), if_pos hb]
    · rw [if_neg hb, if_neg hb]
  · rw [if_neg (by omega), e1, e2, e3, if_pos (by omega), if_pos (by omega), if_pos (by omega), rname_f _ _ hk, Option.bind_some]
    by_cases hb : isNameB (s.extract (i + 1) j) = true
    · rw [if_pos hb, if_pos (by omega), if_pos hb]
    · rw [if_neg hb, if_neg hb]
theorem l0_end (s : ByteArray) (out : List ByteArray) (k : Nat) : r10_Split.l0 (k + 1) s out (s.size : Int) = some (rfin out) := by
  rw [r10_Split.l0, if_neg (by omega)]
  unfold rfin
  split
  · rfl
  · split <;> rfl
theorem l0_cut (s : ByteArray) (hs : s.size ≤ 100000) : ∀ (n k i : Nat) (out : List ByteArray), s.size - i ≤ n → i < s.size → bt s (i : Int) = 47 → out.length ≤ i → 2 * (s.size - i) + 13 ≤ k →
    r10_Split.l0 k s out (i : Int) = some (if (pieces (s.extract (i + 1) s.size)).all isNameB = true then rfin (out ++ pieces (s.extract (i + 1) s.size)) else ([], false)) := by
  intro n
  induction n with
  | zero => intro k i out h1 h2; omega
  | succ n ih =>
    intro k i out h1 h2 h3 h4 h5
    obtain ⟨k, rfl⟩ : ∃ m, k = m + 1 := ⟨k - 1, by omega⟩
    rw [r10_Split.l0, if_pos (by omega), if_pos (by omega), if_pos h3]
    have e1 : (wrap64 ((i : Int) + 1)) = ((i + 1 : Nat) : Int) := by rw [wrap_in (by omega) (by omega)]; rfl
    rw [e1]
    have hsz : (s.extract (i + 1) s.size).size = s.size - (i + 1) := by rw [ByteArray.size_extract]; omega
    rcases Lib.indexB_cases (s.extract (i + 1) s.size) sl with hx | ⟨p, hx, _⟩
    · rw [pieces_miss _ hx]
      have hg : ∀ x : Nat, i + 1 ≤ x → x < (i + 1) + (s.size - (i + 1)) → ¬ bt s (x : Int) = 47 := by
        intro x h6 h7 h8
        have := ix_none _ hx (x - (i + 1)) (by rw [hsz]; omega)
        rw [bt_ext _ _ _ (by omega), show i + 1 + (x - (i + 1)) = x by omega] at this
        exact this h8
      obtain ⟨q, hq⟩ : ∃ q, k = (q + 1 + 1) + (s.size - (i + 1)) := ⟨k - 2 - (s.size - (i + 1)), by omega⟩
      rw [hq, l1_go s out i hs (s.size - (i + 1)) (q + 1 + 1) (i + 1) (by omega) hg, show i + 1 + (s.size - (i + 1)) = s.size by omega,
        l1_end s out i hs (by omega) (q + 1) s.size (by omega) (by omega) (by omega) (fun h => by omega)]
      simp only [List.all_cons, List.all_nil, Bool.and_true]
      by_cases hb : isNameB (s.extract (i + 1) s.size) = true
      · rw [if_pos hb, if_pos hb, l0_end]
      · rw [if_neg hb, if_neg hb]
    · obtain ⟨h6, h7, h8⟩ := ix_some _ p hx
      rw [hsz] at h6
      have hg : ∀ x : Nat, i + 1 ≤ x → x < (i + 1) + p → ¬ bt s (x : Int) = 47 := by
        intro x h9 h10 h11
        have := h8 (x - (i + 1)) (by omega)
        rw [bt_ext _ _ _ (by omega), show i + 1 + (x - (i + 1)) = x by omega] at this
        exact this h11
      rw [bt_ext _ _ _ (by omega)] at h7
      rw [pieces_hit _ p hx, ext_ext _ _ _ _ (by omega), hsz, ext_ext _ _ _ _ (by omega)]
      rw [show i + 1 + 0 = i + 1 by omega, show i + 1 + (s.size - (i + 1)) = s.size by omega, show i + 1 + (p + 1) = (i + 1 + p) + 1 by omega]
      obtain ⟨q, hq⟩ : ∃ q, k = (q + 1) + p := ⟨k - 1 - p, by omega⟩
      rw [hq, l1_go s out i hs p (q + 1) (i + 1) (by omega) hg, l1_end s out i hs (by omega) q (i + 1 + p) (by omega) (by omega) (by omega) (fun _ => h7)]
      rw [List.all_cons]
      by_cases hb : isNameB (s.extract (i + 1) (i + 1 + p)) = true
      · rw [if_pos hb, hb, Bool.true_and, ih q (i + 1 + p) _ (by omega) (by omega) h7 (by rw [List.length_append]; simp; omega) (by omega), List.append_assoc]
        rfl
      · rw [Bool.not_eq_true] at hb
        rw [hb, Bool.false_and, if_neg (by decide), if_neg (by decide)]
theorem pieces_ne (s : ByteArray) : 1 ≤ (pieces s).length := by rw [pieces_length]; omega
theorem split_val (q : List ByteArray) (hne : 1 ≤ q.length) : some (if q.all isNameB = true then rfin q else ([], false)) =
    some ((if (decide (7 < q.length + 1) || !q.any isNameB) = true then (([] : List ByteArray), (9 : Int)) else if q.all isNameB = true then (q, 0) else ([], 9)).1, (if (decide (7 < q.length + 1) || !q.any isNameB) = true then (([] : List ByteArray), (9 : Int)) else if q.all isNameB = true then (q, 0) else ([], 9)).2 == 0) := by
  by_cases ha : q.all isNameB = true
  · have hany : q.any isNameB = true := by
      obtain ⟨x, t, rfl⟩ : ∃ x t, q = x :: t := by cases q with | nil => simp at hne | cons x t => exact ⟨x, t, rfl⟩
      rw [List.all_cons, Bool.and_eq_true] at ha
      rw [List.any_cons, ha.1, Bool.true_or]
    rw [if_pos ha, if_pos ha, hany, Bool.not_true, Bool.or_false]
    unfold rfin
    rw [if_neg (by omega)]
    by_cases h6 : q.length > 6
    · rw [if_pos (by omega), if_pos (by rw [decide_eq_true_eq]; omega)]
      rfl
    · rw [if_neg (by omega), if_neg (by rw [decide_eq_true_eq]; omega)]
      rfl
  · rw [if_neg ha, if_neg ha]
    split <;> rfl
theorem rsplit_f (s : ByteArray) (hs : s.size ≤ 100000) (k : Nat) (hk : 2 * s.size + 13 ≤ k) : r10_Split.f k s = some ((splitF s).1, (splitF s).2 == 0) := by
  unfold r10_Split.f splitF
  by_cases h0 : s.toList = [47]
  · rw [if_pos h0, if_pos (by rw [h0]; rfl)]
    rfl
  · rw [if_neg h0, if_neg (by simpa using h0)]
    by_cases hz : s.size = 0
    · obtain ⟨k, rfl⟩ : ∃ m, k = m + 1 := ⟨k - 1, by omega⟩
      have hx : Lib.indexB s sl = -1 := by
        rcases Lib.indexB_cases s sl with hx | ⟨p, hx, _⟩
        · exact hx
        · have := (ix_some s p hx).1; omega
      rw [pieces_miss s hx]
      have := l0_end s [] k
      rw [hz] at this
      rw [show (0 : Int) = ((0 : Nat) : Int) from rfl, this]
      rfl
    · by_cases hb : bt s ((0 : Nat) : Int) = 47
      · rw [show (0 : Int) = ((0 : Nat) : Int) from rfl, l0_cut s hs s.size k 0 [] (by omega) (by omega) hb (by simp) (by omega)]
        have hx : Lib.indexB s sl = ((0 : Nat) : Int) := by
          rcases Lib.indexB_cases s sl with hx | ⟨p, hx, _⟩
          · exact absurd hb (ix_none s hx 0 (by omega))
          · rcases Nat.eq_zero_or_pos p with rfl | hp
            · exact hx
            · exact absurd hb ((ix_some s p hx).2.2 0 hp)
        rw [pieces_hit s 0 hx, List.nil_append]
        have hne := pieces_ne (s.extract (0 + 1) s.size)
        generalize pieces (s.extract (0 + 1) s.size) = q at *
        have e0 : (s.extract 0 0).toList = [] := by
          rw [Lib.extract_toList]
          simp
        simp only [List.length_cons, List.getD_cons_zero, List.tail_cons, e0, beq_self_eq_true, Bool.not_true, Bool.or_false]
        rw [decide_eq_false (show ¬ q.length + 1 < 2 by omega), Bool.false_or]
        exact split_val q hne
      · obtain ⟨k, rfl⟩ : ∃ m, k = m + 1 := ⟨k - 1, by omega⟩
        rw [r10_Split.l0, if_pos (by omega), if_pos (by omega), if_neg (show ¬ bt s 0 = 47 from hb)]
        rcases Lib.indexB_cases s sl with hx | ⟨p, hx, _⟩
        · rw [pieces_miss s hx]
          rfl
        · have hp := ix_some s p hx
          have hp0 : 0 < p := by
            rcases Nat.eq_zero_or_pos p with rfl | hp0
            · exact absurd hp.2.1 hb
            · exact hp0
          rw [pieces_hit s p hx]
          have e0 : ((s.extract 0 p).toList == []) = false := by
            rw [beq_eq_false_iff_ne]
            intro h
            have : (s.extract 0 p).toList.length = 0 := by rw [h]; rfl
            rw [Lib.extract_toList, List.drop_zero, List.length_take, Array.length_toList] at this
            have hsz : s.data.size = s.size := rfl
            omega
          simp only [List.getD_cons_zero, e0, Bool.not_false, Bool.or_true, Bool.true_or]
          rfl
end Go.Proofs.YthbdgahmlggpmaaDoor.Q
/- What lamellaref10's Walk, Above, In, With and Without answer, in plain Lean. -/



namespace Go.Proofs.YthbdgahmlggpmaaDoor.Q
open Go.RowKit Go.Proofs.YthbdgahmlggpmaaDoorW.PrintWords Go.Proofs.YthbdgahmlggpmaaDoorW.PrintLast
set_option linter.unusedVariables false
set_option linter.unusedSimpArgs false
theorem kidN_range (l : List S34) (d : Int) (nm : ByteArray) : kidN l d nm = -1 ∨ ∃ p : Nat, 1 ≤ p ∧ p < l.length ∧ kidN l d nm = (p : Int) := by
  unfold kidN
  cases hf : (l.drop 1).findIdx? (fun x => x.f1 == d && x.f2.toList == nm.toList) with
  | none => exact .inl rfl
  | some p =>
    rw [List.findIdx?_eq_some_iff_getElem] at hf
    obtain ⟨h, _⟩ := hf
    rw [List.length_drop] at h
    exact .inr ⟨1 + p, by omega, by omega, rfl⟩
def walkN (l : List S34) : List ByteArray → Int → Int × Int
  | [], i => (i, 0)
  | n :: ns, i => if (rd_T34 l i).f3 = true then (if kidN l (rd_T34 l i).f0 n < 0 then (0, 7) else walkN l ns (kidN l (rd_T34 l i).f0 n)) else (0, 10)
theorem walkN_range (l : List S34) (hp : 0 < l.length) : ∀ (ns : List ByteArray) (i : Int), 0 ≤ i → i < (l.length : Int) → 0 ≤ (walkN l ns i).1 ∧ (walkN l ns i).1 < (l.length : Int)
  | [], i, h0, h1 => ⟨h0, h1⟩
  | n :: ns, i, h0, h1 => by
    rw [walkN]
    split
    · split
      · exact ⟨by simp, by simp; omega⟩
      · rcases kidN_range l (rd_T34 l i).f0 n with h | ⟨p, h2, h3, h4⟩
        · omega
        · exact walkN_range l hp ns _ (by omega) (by omega)
    · exact ⟨by simp, by simp; omega⟩
theorem rdOf_at {α : Type} (d : α) (xs : List α) (j : Nat) (h : j < xs.length) : rdOf d xs (j : Int) = xs[j] := by
  simp [rdOf, List.getD_eq_getElem?_getD, List.getElem?_eq_getElem h]
theorem rwalk_loop (l : List S34) (hl : l.length ≤ 1000) (hp : 0 < l.length) (ns : List ByteArray) (hn : ns.length ≤ 1000) : ∀ (n k j : Nat) (i : Int), j + n = ns.length → l.length + n + 1 < k → 0 ≤ i → i < (l.length : Int) →
    r10_Walk.l0 k l ns i (j : Int) = some (walkN l (ns.drop j) i) := by
  intro n
  induction n with
  | zero =>
    intro k j i hj hk h0 h1
    obtain ⟨k, rfl⟩ : ∃ m, k = m + 1 := ⟨k - 1, by omega⟩
    rw [r10_Walk.l0, if_neg (by omega), List.drop_eq_nil_of_le (by omega)]
    rfl
  | succ n ih =>
    intro k j i hj hk h0 h1
    obtain ⟨k, rfl⟩ : ∃ m, k = m + 1 := ⟨k - 1, by omega⟩
    rw [r10_Walk.l0, if_pos (by omega), if_pos h0, if_pos h1, List.drop_eq_getElem_cons (by omega), walkN]
    by_cases hd : (rd_T34 l i).f3 = true
    · rw [if_pos hd, if_pos hd, if_pos (by omega), rdOf_at _ _ _ (by omega), rkid_f l (by unfold maxLen; omega) hp _ _ k (by omega), Option.bind_some]
      by_cases hk2 : kidN l (rd_T34 l i).f0 ns[j] < 0
      · rw [if_pos hk2, if_pos hk2]
      · rw [if_neg hk2, if_neg hk2, wrap_in (by omega) (by omega), show ((j : Int) + 1) = ((j + 1 : Nat) : Int) by omega]
        rcases kidN_range l (rd_T34 l i).f0 ns[j] with h | ⟨p, h2, h3, h4⟩
        · omega
        · exact ih k (j + 1) _ (by omega) (by omega) (by omega) (by omega)
    · rw [if_neg hd, if_neg hd]
theorem rwalk_f (l : List S34) (hl : l.length ≤ 1000) (hp : 0 < l.length) (ns : List ByteArray) (hn : ns.length ≤ 1000) (k : Nat) (hk : l.length + ns.length + 1 < k) : r10_Walk.f k l ns = some (walkN l ns 0) := by
  unfold r10_Walk.f
  have := rwalk_loop l hl hp ns hn ns.length k 0 0 (by omega) hk (by omega) (by omega)
  rwa [List.drop_zero] at this
def aboveN (l : List S34) (ns : List ByteArray) : Int × Int :=
  if ns.length = 0 then (0, 8)
  else if (walkN l (ns.take (ns.length - 1)) 0).2 = 0 then (if (rd_T34 l (walkN l (ns.take (ns.length - 1)) 0).1).f3 = true then ((walkN l (ns.take (ns.length - 1)) 0).1, 0) else (0, 10))
  else (0, (walkN l (ns.take (ns.length - 1)) 0).2)
theorem aboveN_range (l : List S34) (hp : 0 < l.length) (ns : List ByteArray) : 0 ≤ (aboveN l ns).1 ∧ (aboveN l ns).1 < (l.length : Int) := by
  unfold aboveN
  have := walkN_range l hp (ns.take (ns.length - 1)) 0 (by omega) (by omega)
  split
  · exact ⟨by simp, by simp; omega⟩
  · split
    · split
      · exact this
      · exact ⟨by simp, by simp; omega⟩
    · exact ⟨by simp, by simp; omega⟩
theorem rabove_f (l : List S34) (hl : l.length ≤ 1000) (hp : 0 < l.length) (ns : List ByteArray) (hn : ns.length ≤ 1000) (k : Nat) (hk : l.length + ns.length + 1 < k) : r10_Above.f k l ns = some (aboveN l ns) := by
  unfold r10_Above.f aboveN
  by_cases h : ns.length = 0
  · rw [if_pos (by omega), if_pos h]
  · have e : wrap64 ((ns.length : Int) - 1) = ((ns.length - 1 : Nat) : Int) := by rw [wrap_in (by omega) (by omega)]; omega
    have e2 : (((ns.length - 1 : Nat) : Int)).toNat = ns.length - 1 := rfl
    have hr := walkN_range l hp (ns.take (ns.length - 1)) 0 (by omega) (by omega)
    rw [if_neg (by omega), if_neg h, e, e2, if_pos (by omega), if_pos (by omega), rwalk_f l hl hp _ (by rw [List.length_take]; omega) k (by rw [List.length_take]; omega), Option.bind_some]
    by_cases h2 : (walkN l (ns.take (ns.length - 1)) 0).2 = 0
    · rw [if_pos h2, if_pos h2, if_pos hr.1, if_pos hr.2]
      split <;> rfl
    · rw [if_neg h2, if_neg h2]
def inN (l : List S34) (inn : Int) : Nat → Int → Option Bool
  | 0, _ => none
  | m + 1, i => if i = inn then some true else if i = 0 then some false else if 0 ≤ i then inN l inn m (getN l (rd_T34 l i).f1) else none
theorem rin_f (l : List S34) (hl : l.length ≤ 1000) (inn : Int) : ∀ (m k : Nat) (i : Int) (v : Bool), inN l inn m i = some v → l.length + m + 1 < k → i < (l.length : Int) → r10_In.l0 k l i inn = some v := by
  intro m
  induction m with
  | zero => intro k i v h; simp [inN] at h
  | succ m ih =>
    intro k i v h hk hi
    obtain ⟨k, rfl⟩ : ∃ q, k = q + 1 := ⟨k - 1, by omega⟩
    rw [inN] at h
    rw [r10_In.l0]
    by_cases h1 : i = inn
    · rw [if_pos h1] at h ⊢
      exact h
    · rw [if_neg h1] at h ⊢
      by_cases h2 : i = 0
      · rw [if_pos h2] at h ⊢
        exact h
      · rw [if_neg h2] at h ⊢
        by_cases h3 : 0 ≤ i
        · rw [if_pos h3] at h ⊢
          rw [if_pos hi, rget_f l (by unfold maxLen; omega) _ k (by omega), Option.bind_some]
          exact ih k _ v h (by omega) (getN_range l _).2
        · rw [if_neg h3] at h
          cases h
theorem plc_at (l : List S34) (id : Int) (i : Nat) (hi : i ≤ l.length) (h1 : ∀ (j : Nat) (hj : j < i), (l[j]'(by omega)).f0 < id) (h2 : ∀ h : i < l.length, ¬ l[i].f0 < id) : plc l id = i := by
  unfold plc
  induction l generalizing i with
  | nil => simp at hi; subst hi; rfl
  | cons y t ih =>
    cases i with
    | zero =>
      have := h2 (by simp)
      simp only [List.getElem_cons_zero] at this
      rw [List.takeWhile_cons_of_neg (by simpa using this)]
      rfl
    | succ i =>
      have h0 := h1 0 (by omega)
      simp only [List.getElem_cons_zero] at h0
      rw [List.takeWhile_cons_of_pos (by simpa using h0), List.length_cons]
      have := ih i (by simpa using hi) (fun j hj => by have := h1 (j + 1) (by omega); simpa using this) (fun h => by have := h2 (by simp; omega); simpa using this)
      rw [this]
def withN (l : List S34) (x : S34) : List S34 := l.take (plc l x.f0) ++ x :: l.drop (plc l x.f0)
theorem rwith_loop (l : List S34) (hl : l.length ≤ 1000) (x : S34) : ∀ (n k i : Nat), i + n = l.length → n < k → (∀ (j : Nat) (hj : j < i) (hi : i ≤ l.length), (l[j]'(by omega)).f0 < x.f0) →
    r10_With.l0 k l (i : Int) x.f0 x.f1 x.f2 x.f3 x.f4 = some (withN l x) := by
  intro n
  induction n with
  | zero =>
    intro k i hi hk h
    obtain ⟨k, rfl⟩ : ∃ m, k = m + 1 := ⟨k - 1, by omega⟩
    have hp := plc_at l x.f0 i (by omega) (fun j hj => h j hj (by omega)) (fun h => by omega)
    rw [r10_With.l0, if_neg (by omega), if_pos (by omega), if_pos (by omega)]
    simp only [Option.bind_some]
    have e : ((i : Int)).toNat = i := rfl
    have h1 := List.length_take (l := l) (i := i)
    have h2 := List.length_drop (l := l) (i := i)
    rw [e, if_pos (by simp only [List.length_nil]; omega), if_pos (by simp only [List.nil_append]; omega), if_pos (by simp only [List.nil_append, List.length_append, List.length_cons, List.length_nil]; omega)]
    unfold withN
    rw [hp]
    simp
  | succ n ih =>
    intro k i hi hk h
    obtain ⟨k, rfl⟩ : ∃ m, k = m + 1 := ⟨k - 1, by omega⟩
    have hi2 : i < l.length := by omega
    rw [r10_With.l0, if_pos (by omega), if_pos (by omega), rd34_get _ _ hi2]
    by_cases hc : l[i].f0 < x.f0
    · rw [if_pos hc, wrap_in (by omega) (by omega), show ((i : Int) + 1) = ((i + 1 : Nat) : Int) by omega]
      refine ih k (i + 1) (by omega) (by omega) (fun j hj hj2 => ?_)
      rcases Nat.lt_or_ge j i with h3 | h3
      · exact h j h3 (by omega)
      · obtain rfl : j = i := by omega
        exact hc
    · have hp := plc_at l x.f0 i (by omega) (fun j hj => h j hj (by omega)) (fun _ => hc)
      rw [if_neg hc, if_pos (by omega)]
      simp only [Option.bind_some]
      have e : ((i : Int)).toNat = i := rfl
      have h1 := List.length_take (l := l) (i := i)
      have h2 := List.length_drop (l := l) (i := i)
      rw [e, if_pos (by simp only [List.length_nil]; omega), if_pos (by simp only [List.nil_append]; omega), if_pos (by simp only [List.nil_append, List.length_append, List.length_cons, List.length_nil]; omega)]
      unfold withN
      rw [hp]
      simp
theorem rwith_f (l : List S34) (hl : l.length ≤ 1000) (x : S34) (k : Nat) (hk : l.length < k) : r10_With.f k l x.f0 x.f1 x.f2 x.f3 x.f4 = some (withN l x) := by
  unfold r10_With.f
  exact rwith_loop l hl x l.length k 0 (by omega) hk (fun j hj => by omega)
def outN (l : List S34) (i : Nat) : List S34 := l.take i ++ l.drop (i + 1)
theorem rwithout_f (l : List S34) (hl : l.length ≤ 1000) (i : Nat) (hi : i < l.length) : r10_Without.f l (i : Int) = some (outN l i) := by
  unfold r10_Without.f
  have e1 : wrap64 ((i : Int) + 1) = ((i + 1 : Nat) : Int) := by rw [wrap_in (by omega) (by omega)]; rfl
  have h1 := List.length_take (l := l) (i := i)
  have h2 := List.length_drop (l := l) (i := i + 1)
  have e : ((i : Int)).toNat = i := rfl
  have e2 : (((i + 1 : Nat) : Int)).toNat = i + 1 := rfl
  rw [if_pos (by omega), if_pos (by omega), e1, e, e2]
  simp only [Option.bind_some]
  rw [if_pos (by simp only [List.length_nil]; omega), if_pos (by omega), if_pos (by omega), if_pos (by simp only [List.nil_append]; omega)]
  simp [outN]
end Go.Proofs.YthbdgahmlggpmaaDoor.Q
