/- Contracts and plain theory of this seat, merged out of smaller texts: T1, T2. -/
import Derived.Test.YthbdgahmlggpmaaDoorQ0
import Derived.Test.YthbdgahmlggpmaaDoorSh
import Derived.Outline
import Derived.BigQuiet
import Derived.Deep.QuietTactic
import Derived.Shelf.Strings.Split
import Derived.Lib.IndexBytes
/- The contract of tree.isName, for every string. -/





namespace Go.Proofs.YthbdgahmlggpmaaDoor.Q
open Go.RowKit Go.Proofs.YthbdgahmlggpmaaDoorW.PrintWords Go.Proofs.YthbdgahmlggpmaaDoorW.PrintLast Go.Proofs.YthbdgahmlggpmaaDoorW.PrintMore
set_option linter.unusedVariables false
set_option linter.unusedSimpArgs false
def abc : ByteArray := ⟨#[97, 98, 99, 100, 101, 102, 103, 104, 105, 106, 107, 108, 109, 110, 111, 112, 113, 114, 115, 116, 117, 118, 119, 120, 121, 122, 48, 49, 50, 51, 52, 53, 54, 55, 56, 57, 46, 95, 45]⟩
theorem enc_all : (List.range 128).all (fun n => (Utf8.encode (128 + (n : Int))).size == 2 && decide (128 ≤ bt (Utf8.encode (128 + (n : Int))) 1)) = true := by kernel_rfl
theorem enc_hi (r : Int) (h0 : 128 ≤ r) (h1 : r < 256) : (Utf8.encode r).size = 2 ∧ 128 ≤ bt (Utf8.encode r) 1 := by
  have h := List.all_eq_true.1 enc_all (r - 128).toNat (List.mem_range.2 (by omega))
  rw [show (128 + (((r - 128).toNat : Nat) : Int)) = r by omega] at h
  simp only [Bool.and_eq_true, beq_iff_eq, decide_eq_true_eq] at h
  exact h
theorem none_all : (List.range 128).all (fun n => Lib.indexByte (List.take 37 (List.drop 2 abc.data.toList)) (n + 128).toUInt8 == -1) = true := by kernel_rfl
theorem none_hi (c : UInt8) (h0 : 128 ≤ c.toNat) : Lib.indexByte (List.take 37 (List.drop 2 abc.data.toList)) c = -1 := by
  have h1 := UInt8.toNat_lt c
  have h := List.all_eq_true.1 none_all (c.toNat - 128) (List.mem_range.2 (by omega))
  rw [show c.toNat - 128 + 128 = c.toNat by omega] at h
  have h2 := eq_of_beq h
  rwa [show c.toNat.toUInt8 = c by simp] at h2
set_option maxHeartbeats 4000000 in
set_option maxRecDepth 100000 in
theorem idx_hi (r : Int) (w : World) (h0 : 128 ≤ r) (h1 : r < 256) :
    Calls Tryd.prog 74 #[.string abc, .int .i32 r] w fun e w' => e = .returned (.int .i64 (-1)) ∧ Drawn0 w w' := by
  go_enter Tryd.func74, Tryd.ntmps74
  go_wp2_with (first | (go_at_call 91; refine (Tryd.utf8_ValidRune _ _).mono ?_; rintro e w' ⟨rfl, rfl⟩) | (go_at_call 90; refine (Tryd.strings_IndexByte _ _ _).mono ?_; rintro e w' ⟨rfl, rfl⟩))
  · go_ret
    exact ⟨rfl, Drawn0.refl _⟩
  · go_wp2_with (go_at_call 90; refine (Tryd.strings_IndexByte _ _ _).mono ?_; rintro e w' ⟨rfl, rfl⟩)
    obtain ⟨e1, e2⟩ := enc_hi r h0 h1
    generalize hE : Utf8.encode r = E at e1 e2
    go_step3
    go_wp2_with (fail)
    have hw1 : wrap64 (((E.size : Nat) : Int) - 1) = 1 := by rw [e1]; kernel_rfl
    try simp only [hw1]
    have habc : abc.size = 39 := rfl
    have hE1 : 1 < E.size := by omega
    have e3 : 128 ≤ (E[1]'hE1).toNat := by have := e2; rw [bt, dif_pos (show ((1:Int).toNat) < E.size from hE1)] at this; exact Int.ofNat_le.1 this
    have e4 : (((abc[1]'(by decide)).toNat : Int) != ((E[1]'hE1).toNat : Int)) = true := bne_iff_ne.2 (by have h9 : (abc[1]'(by decide)).toNat = 98 := rfl; rw [h9]; omega)
    have e5 : Lib.indexByte (List.take 37 (List.drop 2 abc.data.toList)) (E[1]'hE1) = -1 := none_hi _ e3
    have hw2 : IntKind.i64.wrap 2 = 2 := by kernel_rfl
    clear e2
    go_loopw [9, 10] (fun v9 v10 wr => v9 = .int .i64 1 ∧ v10 = .int .i64 0 ∧ Aside0 (Drawn0 w' wr)) (fun _ _ _ => 0)
    case atStart => exact ⟨rfl, rfl, ⟨Drawn0.refl _⟩⟩
    case round =>
      obtain ⟨rfl, rfl, HB⟩ := hrel
      go_wp2_with (go_at_call 90; refine (Tryd.strings_IndexByte _ _ _).mono ?_; rintro e w' ⟨rfl, rfl⟩)
      go_step3
      go_wp2_with (go_at_call 90; refine (Tryd.strings_IndexByte _ _ _).mono ?_; rintro e w' ⟨rfl, rfl⟩)
      go_quiet ((fail))
      go_wp2_with (fail)
      have HB5 := Aside0.mk (HB.out.step nq)
      clear HB
      generalize wr.drewN nq = w5 at HB5 ⊢
      go_quiet ((go_at_call 90; exact Calls.quiet_of_same (Tryd.strings_IndexByte _ _ _)))
      go_wp2_with (fail)
      change bodyPost Tryd.prog Tryd.f74 (fun e w'_1 => e = .returned (.int .i64 (-1)) ∧ Drawn0 w' w'_1) .ret _ _
      go_ret
      exact ⟨rfl, HB5.out.step _⟩
def nameC (c : Int) : Bool := decide (0 ≤ Lib.indexByte abc.data.toList c.toNat.toUInt8)
theorem nameC_all : (List.range 128).all (fun n => nameC (128 + (n : Int)) == false) = true := by kernel_rfl
theorem nameC_hi (c : Int) (h0 : 128 ≤ c) (h1 : c < 256) : nameC c = false := by
  have h := List.all_eq_true.1 nameC_all (c - 128).toNat (List.mem_range.2 (by omega))
  rw [show (128 + (((c - 128).toNat : Nat) : Int)) = c by omega] at h
  exact eq_of_beq h
set_option maxHeartbeats 4000000 in
set_option maxRecDepth 100000 in
theorem contains.calls (r : Int) (w : World) (h0 : 0 ≤ r) (h1 : r < 256) :
    Calls Tryd.prog 66 #[.string abc, .int .i32 r] w fun e w' => e = .returned (.bool (nameC r)) ∧ Drawn0 w w' := by
  rcases Int.lt_or_le r 128 with h | h
  · exact (Tryd.strings_ContainsRune_ascii abc r w h0 h).mono fun e w' ⟨he, hw⟩ => ⟨he, by rw [hw]; exact Drawn0.refl _⟩
  · rw [nameC_hi r h h1]
    go_enter Tryd.func66, Tryd.ntmps66
    go_wp2_with (go_at_call 74; refine (idx_hi r _ h h1).mono ?_; rintro e w' ⟨rfl, hb⟩)
    go_ret
    exact ⟨rfl, hb⟩
def isNameB (s : ByteArray) : Bool := decide (1 ≤ s.size) && decide (s.size ≤ 8) && !(s.toList == [46]) && !(s.toList == [46, 46]) && (List.range s.size).all (fun i => nameC (bt s (i : Int)))
def tree_isName.f (s : ByteArray) : Option Bool := some (isNameB s)
theorem drawn0_trans {w w1 w2 : World} (h : Drawn0 w w1) (h2 : Drawn0 w1 w2) : Drawn0 w w2 := by
  obtain ⟨n, rfl⟩ := h2.out
  exact h.step n
set_option maxHeartbeats 4000000 in
set_option maxRecDepth 100000 in
theorem tree_isName.calls (s : ByteArray) (r : Bool) (w : World) (h : tree_isName.f s = some r) :
    Calls Tryd.prog 52 #[.string s] w fun e w' => e = .returned (.bool r) ∧ Drawn0 w w' := by
  cases h
  by_cases H : 1 ≤ s.size ∧ s.size ≤ 8 ∧ (s.toList == [46]) = false ∧ (s.toList == [46, 46]) = false
  · obtain ⟨h1, h2, h3, h4⟩ := H
    have hf : isNameB s = (List.range s.size).all (fun i => nameC (bt s (i : Int))) := by
      unfold isNameB
      rw [decide_eq_true h1, decide_eq_true h2, h3, h4]
      rfl
    have g1 : ¬ ((s.size : Nat) : Int) < 1 := by omega
    have g2 : ¬ 8 < ((s.size : Nat) : Int) := by omega
    go_enter Tryd.func52, Tryd.ntmps52
    go_wp2_with (fail)
    go_loopw [22] (fun v22 wr => ∃ i : Nat, i ≤ s.size ∧ v22 = .int .i64 i ∧ Aside0 (∀ j : Nat, j < i → nameC (bt s (j : Int)) = true) ∧ Aside0 (Drawn0 w wr)) (fun v22 _ => s.size - (intOf v22).toNat)
    case atStart => exact ⟨0, Nat.zero_le _, rfl, ⟨fun j hj => by omega⟩, ⟨Drawn0.refl _⟩⟩
    case round =>
      obtain ⟨i, hi, rfl, HN, HB⟩ := hrel
      by_cases hlt : i < s.size
      · have hbt : bt s (i : Int) = ((s[i]'hlt).toNat : Int) := by rw [bt, dif_pos (show ((i : Int).toNat) < s.size by simpa using hlt)]; simp
        have hr1 := UInt8.toNat_lt (s[i]'hlt)
        go_wp2_with (go_at_call 66; refine (contains.calls ((s[i]'hlt).toNat : Int) _ (by omega) (by omega)).mono ?_; rintro e w' ⟨rfl, hb⟩)
        · have hn : (!nameC ((s[i]'hlt).toNat : Int)) = true := by assumption
          have hf2 : isNameB s = false := by
            rw [hf, Bool.eq_false_iff]
            intro hc
            have h9 := List.all_eq_true.1 hc i (List.mem_range.2 hlt)
            rw [hbt] at h9
            rw [h9] at hn
            cases hn
          rw [hf2]
          go_ret
          exact ⟨rfl, drawn0_trans HB.out hb⟩
        · have hn : (!nameC ((s[i]'hlt).toNat : Int)) = false := by assumption
          refine ⟨⟨i + 1, by omega, by go_num, ⟨fun j hj => ?_⟩, ⟨drawn0_trans HB.out hb⟩⟩, by simp [intOf]; omega⟩
          rcases Nat.lt_or_ge j i with h5 | h5
          · exact HN.out j h5
          · obtain rfl : j = i := by omega
            rw [hbt]
            simpa using hn
      · obtain rfl : i = s.size := by omega
        have hf2 : isNameB s = true := by
          rw [hf, List.all_eq_true]
          intro j hj
          exact HN.out j (List.mem_range.1 hj)
        go_wp2_with (fail)
        rw [hf2]
        go_ret
        exact ⟨rfl, HB.out⟩
  · have hf : isNameB s = false := by
      unfold isNameB
      rw [Bool.eq_false_iff]
      intro hc
      simp only [Bool.and_eq_true, decide_eq_true_eq, Bool.not_eq_true'] at hc
      exact H ⟨hc.1.1.1.1, hc.1.1.1.2, hc.1.1.2, hc.1.2⟩
    rw [hf]
    go_enter Tryd.func52, Tryd.ntmps52
    go_wp2_with (fail)
    all_goals first | (go_ret; exact ⟨rfl, Drawn0.refl _⟩) | skip
    exfalso
    have hh : ((1 ≤ ((s.size : Nat) : Int) ∧ ((s.size : Nat) : Int) ≤ 8) ∧ (s.toList == [46]) = false) ∧ (s.toList == [46, 46]) = false := by assumption
    exact H ⟨by omega, by omega, hh.1.2, hh.2⟩
end Go.Proofs.YthbdgahmlggpmaaDoor.Q
/- The contract of tree.Split, for every path of at most 100000 bytes. -/



namespace Go.Proofs.YthbdgahmlggpmaaDoor.Q
open Go.RowKit Go.Proofs.YthbdgahmlggpmaaDoorW.PrintWords Go.Proofs.YthbdgahmlggpmaaDoorW.PrintLast Go.Proofs.YthbdgahmlggpmaaDoorW.PrintMore
set_option linter.unusedVariables false
set_option linter.unusedSimpArgs false
theorem getD_at {α : Type} (l : List α) (d : α) {j : Nat} (h : j < l.length) : l.getD j d = l[j] := by simp [List.getD_eq_getElem?_getD, h]
def sl : ByteArray := ⟨#[47]⟩
def pieces (s : ByteArray) : List ByteArray := Lib.splitB sl 0 (Lib.countB s sl) s
theorem pieces_length (s : ByteArray) : (pieces s).length = Lib.countB s sl + 1 := Lib.splitB_all sl (by decide) 0 _ s rfl
set_option maxHeartbeats 4000000 in
set_option maxRecDepth 100000 in
theorem split57 (s : ByteArray) (w : World) (hs : s.size < 4294967281) :
    Calls Tryd.prog 57 #[.string s, .string ⟨#[47]⟩] w fun e w' => e = .returned (.slice (some ⟨w.heap.size, 0, none⟩) (pieces s).length (pieces s).length) ∧ w' = w.alloc (.cells ((pieces s).map Value.string).toArray 9) := by
  have hle := Lib.countB_le sl (by decide) s.size s (Nat.le_refl _)
  have hlen := pieces_length s
  have c := Any.strings_genSplit_core Tryd.lays221 (by kernel_rfl) s sl 0 (-1) (Lib.countB s sl + 1) w hs (by decide) (Nat.zero_le _)
    (fun x c hx => (Tryd.strings_Index_one x 47 _).mono fun e w' hh => ⟨by rw [hh.1]; show Ending.returned (Value.int .i64 _) = Ending.returned (Value.int .i64 (Lib.index x.data.toList [47])); rw [Lib.index_one], hh.2⟩)
    ((Tryd.strings_Count_one s 47 w).mono fun e w' hh => ⟨by rw [hh.1]; show Ending.returned (Value.int .i64 _) = Ending.returned (Value.int .i64 ((Lib.count s.data.toList [47] : Nat) : Int)); rw [Lib.count_one]; rfl, hh.2⟩)
    (by decide) (by decide) (by rw [if_pos (by decide)]; omega)
  rw [Nat.add_sub_cancel] at c
  change Calls Tryd.prog 68 _ w (fun e w' => e = .returned (.slice (some ⟨w.heap.size, 0, none⟩) (pieces s).length (Lib.countB s sl + 1)) ∧ w' = w.alloc (.cells (Lib.cellsOf (pieces s) (Lib.countB s sl + 1)) 9)) at c
  rw [← hlen, Lib.cellsOf_full] at c
  clear hlen hle
  go_enter Tryd.func57, Tryd.ntmps57
  go_wp2_with (go_at_call 68; refine c.mono ?_; rintro e w' ⟨rfl, hw⟩; rw [hw])
  go_ret
  exact ⟨rfl, rfl⟩
set_option maxHeartbeats 4000000 in
set_option maxRecDepth 100000 in
theorem idx69 (g c : Nat) (xs : List ByteArray) (w : World) (hl : xs.length ≤ 1000) (hcell : ∀ i : Nat, i < xs.length → w.cell? ⟨g, 1 + i, none⟩ = some (.string (xs.getD i ⟨#[]⟩))) :
    Calls Tryd.prog 69 #[.slice (some ⟨g, 1, none⟩) xs.length c, .func (.func 52) #[] #[]] w fun e w' => (∃ r : Int, e = .returned (.int .i64 r) ∧ decide (0 ≤ r) = xs.any isNameB) ∧ Drawn0 w w' := by
  have HC := Aside0.mk hcell
  clear hcell
  go_enter Tryd.func69, Tryd.ntmps69
  go_wp2_with (fail)
  go_loopw [8] (fun v8 wr => ∃ i : Nat, i ≤ xs.length ∧ v8 = .int .i64 i ∧ Aside0 (∀ j : Nat, j < i → isNameB (xs.getD j ⟨#[]⟩) = false) ∧ Aside0 (Drawn0 w wr)) (fun v8 _ => xs.length - (intOf v8).toNat)
  case atStart => exact ⟨0, Nat.zero_le _, rfl, ⟨fun j hj => by omega⟩, ⟨Drawn0.refl _⟩⟩
  case round =>
    obtain ⟨i, hi, rfl, HN, HB⟩ := hrel
    by_cases hlt : i < xs.length
    · obtain ⟨n0, hn0⟩ := HB.out.out
      have hx : wr.cell? ⟨g, 1 + i, none⟩ = some (.string (xs.getD i ⟨#[]⟩)) := by rw [hn0]; exact HC.out i hlt
      clear hn0
      have HX := Aside0.mk (rfl : xs.getD i ⟨#[]⟩ = xs.getD i ⟨#[]⟩)
      generalize hq : xs.getD i ⟨#[]⟩ = q at hx HX
      have HQ := Aside0.mk hq
      clear hq HX
      go_wp2_with (go_at_call 52; refine (tree_isName.calls q _ _ rfl).mono ?_; rintro e w1 ⟨rfl, hb1⟩; have HB1 := Aside0.mk (drawn0_trans HB.out hb1); clear hb1)
      · go_ret
        refine ⟨⟨_, rfl, ?_⟩, HB1.out⟩
        have hq2 : isNameB q = true := by assumption
        rw [decide_eq_true (by omega)]
        refine (List.any_eq_true.2 ⟨q, ?_, hq2⟩).symm
        rw [← HQ.out, getD_at _ _ hlt]
        exact List.getElem_mem _
      · have hq2 : isNameB q = false := by assumption
        refine ⟨⟨i + 1, by omega, by go_num, ⟨fun j hj => ?_⟩, HB1⟩, by simp [intOf]; omega⟩
        rcases Nat.lt_or_ge j i with h5 | h5
        · exact HN.out j h5
        · obtain rfl : j = i := by omega
          rw [HQ.out]
          exact hq2
    · obtain rfl : i = xs.length := by omega
      go_wp2_with (fail)
      go_ret
      refine ⟨⟨_, rfl, ?_⟩, HB.out⟩
      rw [decide_eq_false (by omega)]
      symm
      rw [List.any_eq_false]
      intro x hx
      obtain ⟨j, hj, rfl⟩ := List.mem_iff_getElem.1 hx
      have := HN.out j hj
      rw [getD_at _ _ hj] at this
      simpa using this
set_option maxHeartbeats 4000000 in
set_option maxRecDepth 100000 in
theorem has58 (g n c : Nat) (xs : List ByteArray) (w : World) (hn : xs.length = n) (hl : xs.length ≤ 1000) (hcell : ∀ i : Nat, i < xs.length → w.cell? ⟨g, 1 + i, none⟩ = some (.string (xs.getD i ⟨#[]⟩))) :
    Calls Tryd.prog 58 #[.slice (some ⟨g, 1, none⟩) n c, .func (.func 52) #[] #[]] w fun e w' => e = .returned (.bool (xs.any isNameB)) ∧ Drawn0 w w' := by
  subst hn
  have HC := Aside0.mk hcell
  clear hcell
  go_enter Tryd.func58, Tryd.ntmps58
  go_wp2_with (go_at_call 69; refine (idx69 g c xs _ hl HC.out).mono ?_; rintro e w1 ⟨⟨r, rfl, hr⟩, hb1⟩; have HR := Aside0.mk hr; have HB1 := Aside0.mk hb1; clear hr hb1)
  go_ret
  exact ⟨by rw [← HR.out]; rfl, HB1.out⟩
def splitF (s : ByteArray) : List ByteArray × Int :=
  if s.toList == [47] then ([], 0)
  else if decide ((pieces s).length < 2) || decide (7 < (pieces s).length) || !(((pieces s).getD 0 ⟨#[]⟩).toList == []) || !((pieces s).tail.any isNameB) then ([], 9)
  else if (pieces s).tail.all isNameB then ((pieces s).tail, 0) else ([], 9)
def tree_Split.f (s : ByteArray) : Option (List ByteArray × Int) := if s.size ≤ 100000 then some (splitF s) else none
set_option maxHeartbeats 4000000 in
set_option maxRecDepth 100000 in
theorem tree_Split.calls (s : ByteArray) (r1 : List ByteArray) (r2 : Int) (w : World) (h : tree_Split.f s = some (r1, r2)) :
    Calls Tryd.prog 27 #[.string s] w fun e w' => (∃ A c, e = .returned (.tuple #[.slice A r1.length c, .int .i64 r2]) ∧ r1.length ≤ c ∧ Kd.C Kd.string w' A r1.length r1) ∧ Below w.heap.size w w' := by
  unfold tree_Split.f at h
  by_cases hd : s.size ≤ 100000
  · rw [if_pos hd] at h
    have h := Option.some.inj h
    unfold splitF at h
    cases c1 : (s.toList == [47])
    · rw [c1, if_neg (by decide)] at h
      have HH := Aside0.mk h
      clear h
      go_enter Tryd.func27, Tryd.ntmps27
      go_upto_region 4 with (go_at_call 57; refine (split57 s _ (by omega)).mono ?_; rintro e w' ⟨rfl, hw⟩; rw [hw])
      obtain ⟨L, hL⟩ : ∃ L, L = pieces s := ⟨_, rfl⟩
      have HH2 := Aside0.mk (show (if (decide (L.length < 2) || decide (7 < L.length) || !((L.getD 0 ⟨#[]⟩).toList == []) || !(L.tail.any isNameB)) = true then (([], 9) : List ByteArray × Int) else if L.tail.all isNameB = true then (L.tail, 0) else ([], 9)) = (r1, r2) by rw [hL]; exact HH.out)
      rw [← hL]
      clear HH hL
      have BK := heap_alloc_new w (.cells (L.map Value.string).toArray 9)
      have HB := Aside0.mk (below_alloc (Below.refl w.heap.size w) (.cells (L.map Value.string).toArray 9))
      generalize w.alloc (.cells (L.map Value.string).toArray 9) = w1 at BK HB ⊢
      have hcell : Aside0 (∀ i : Nat, i < L.length → w1.cell? ⟨w.heap.size, i, none⟩ = some (.string (L.getD i ⟨#[]⟩))) := ⟨fun i hi => by rw [blk_cell BK i, getD_at _ _ hi]; simp [hi]⟩
      clear BK
      obtain ⟨g, hg⟩ : ∃ g, g = w.heap.size := ⟨_, rfl⟩
      rw [← hg] at hcell ⊢
      clear hg
      by_cases n2 : L.length < 2
      · have e1 : decide ((L.length : Int) < 2) = true := decide_eq_true (by omega)
        have hr := HH2.out
        rw [decide_eq_true n2, Bool.true_or, Bool.true_or, Bool.true_or, if_pos rfl] at hr
        cases hr
        go_wp2_with (first | (go_at_call 58; refine (has58 g _ _ L.tail _ htl (by rw [htl]; omega) hct.out).mono ?_; rintro e w2 ⟨rfl, hb2⟩; have HB2 := Aside0.mk (below_step HB.out hb2.below); have HD2 := Aside0.mk hb2; clear hb2))
        go_ret2
        exact ⟨⟨_, _, rfl, Nat.le_refl _, Kd.C_nil _ _⟩, HB.out⟩
      · have e1 : decide ((L.length : Int) < 2) = false := decide_eq_false (by omega)
        by_cases n7 : 7 < L.length
        · have e2 : decide ((7 : Int) < (L.length : Int)) = true := decide_eq_true (by omega)
          have hr := HH2.out
          rw [decide_eq_true n7, Bool.or_true, Bool.true_or, Bool.true_or, if_pos rfl] at hr
          cases hr
          go_wp2_with (first | (go_at_call 58; refine (has58 g _ _ L.tail _ htl (by rw [htl]; omega) hct.out).mono ?_; rintro e w2 ⟨rfl, hb2⟩; have HB2 := Aside0.mk (below_step HB.out hb2.below); have HD2 := Aside0.mk hb2; clear hb2))
          go_ret2
          exact ⟨⟨_, _, rfl, Nat.le_refl _, Kd.C_nil _ _⟩, HB.out⟩
        · have e2 : decide ((7 : Int) < (L.length : Int)) = false := decide_eq_false (by omega)
          have hc0 := hcell.out 0 (by omega)
          have hg1 : (0 < L.length) = True := eq_true (by omega)
          have hg2 : ¬ (L.length = 1) := by omega
          have hct : Aside0 (∀ i : Nat, i < L.tail.length → w1.cell? ⟨g, 1 + i, none⟩ = some (.string (L.tail.getD i ⟨#[]⟩))) := ⟨fun i hi => by
            rw [List.length_tail] at hi
            rw [hcell.out (1 + i) (by omega), getD_at _ _ (by omega), getD_at _ _ (by rw [List.length_tail]; omega)]
            simp [List.getElem_tail, Nat.add_comm]⟩
          have hHH := HH2.out
          rw [decide_eq_false n2, decide_eq_false n7] at hHH
          have HH3 := Aside0.mk hHH
          clear hHH HH2
          have htl : L.tail.length = L.length - 1 := List.length_tail
          generalize L.getD 0 ⟨#[]⟩ = q at hc0 HH3
          cases c3 : (q.toList == [])
          · have hr := HH3.out
            rw [c3, if_pos (by rfl)] at hr
            cases hr
            go_wp2_with (first | (go_at_call 58; refine (has58 g _ _ L.tail _ htl (by rw [htl]; omega) hct.out).mono ?_; rintro e w2 ⟨rfl, hb2⟩; have HB2 := Aside0.mk (below_step HB.out hb2.below); have HD2 := Aside0.mk hb2; clear hb2))
            go_ret2
            exact ⟨⟨_, _, rfl, Nat.le_refl _, Kd.C_nil _ _⟩, HB.out⟩
          · have c3' : q.toList = [] := by simpa using c3
            cases c4 : L.tail.any isNameB
            · have hr := HH3.out
              rw [c3, c4, if_pos (by rfl)] at hr
              cases hr
              go_wp2_with (first | (go_at_call 58; refine (has58 g _ _ L.tail _ htl (by rw [htl]; omega) hct.out).mono ?_; rintro e w2 ⟨rfl, hb2⟩; have HB2 := Aside0.mk (below_step HB.out hb2.below); have HD2 := Aside0.mk hb2; clear hb2))
              go_ret2
              exact ⟨⟨_, _, rfl, Nat.le_refl _, Kd.C_nil _ _⟩, HB2.out⟩
            · have hr := HH3.out
              rw [c3, c4, if_neg (by decide)] at hr
              have HR := Aside0.mk hr
              clear hr HH3
              go_wp2_with (first | (go_at_call 58; refine (has58 g _ _ L.tail _ htl (by rw [htl]; omega) hct.out).mono ?_; rintro e w2 ⟨rfl, hb2⟩; have HB2 := Aside0.mk (below_step HB.out hb2.below); have HD2 := Aside0.mk hb2; clear hb2))
              go_loopw [34] (fun v34 wr => ∃ i : Nat, i ≤ L.length - 1 ∧ v34 = .int .i64 i ∧ Aside0 (∀ j : Nat, j < i → isNameB (L.tail.getD j ⟨#[]⟩) = true) ∧ Aside0 (Drawn0 w1 wr)) (fun v34 _ => L.length - (intOf v34).toNat)
              case atStart => exact ⟨0, Nat.zero_le _, rfl, ⟨fun j hj => by omega⟩, HD2⟩
              case round =>
                clear HD2 HB2
                obtain ⟨i, hi, rfl, HN, HD⟩ := hrel
                by_cases hlt : i < L.length - 1
                · obtain ⟨n0, hn0⟩ := HD.out.out
                  have hx : wr.cell? ⟨g, 1 + i, none⟩ = some (.string (L.tail.getD i ⟨#[]⟩)) := by rw [hn0]; exact hct.out i (by omega)
                  clear hn0
                  have HX := Aside0.mk (rfl : L.tail.getD i ⟨#[]⟩ = L.tail.getD i ⟨#[]⟩)
                  generalize hq : L.tail.getD i ⟨#[]⟩ = x at hx HX
                  have HQ := Aside0.mk hq
                  clear hq HX
                  go_wp2_with (go_at_call 52; refine (tree_isName.calls x _ _ rfl).mono ?_; rintro e w3 ⟨rfl, hb3⟩; have HD3 := Aside0.mk (drawn0_trans HD.out hb3); clear hb3)
                  · have hn : (!isNameB x) = true := by assumption
                    have ha : L.tail.all isNameB = false := by
                      rw [Bool.eq_false_iff]
                      intro hc
                      have h9 := List.all_eq_true.1 hc x (by rw [← HQ.out, getD_at _ _ (show i < L.tail.length by omega)]; exact List.getElem_mem _)
                      rw [h9] at hn
                      cases hn
                    have hr := HR.out
                    rw [ha, if_neg (by decide)] at hr
                    cases hr
                    go_ret2
                    exact ⟨⟨_, _, rfl, Nat.le_refl _, Kd.C_nil _ _⟩, below_step HB.out HD3.out.below⟩
                  · have hn : (!isNameB x) = false := by assumption
                    refine ⟨⟨i + 1, by omega, by go_num, ⟨fun j hj => ?_⟩, HD3⟩, by simp [intOf]; omega⟩
                    rcases Nat.lt_or_ge j i with h5 | h5
                    · exact HN.out j h5
                    · obtain rfl : j = i := by omega
                      rw [HQ.out]
                      simpa using hn
                · obtain rfl : i = L.length - 1 := by omega
                  have ha : L.tail.all isNameB = true := by
                    rw [List.all_eq_true]
                    intro x hx
                    obtain ⟨j, hj, rfl⟩ := List.mem_iff_getElem.1 hx
                    have := HN.out j (by omega)
                    rwa [getD_at _ _ hj] at this
                  have hr := HR.out
                  rw [ha, if_pos rfl] at hr
                  cases hr
                  go_wp2_with (fail)
                  go_ret2
                  (try rw [htl])
                  refine ⟨⟨some ⟨g, 1, none⟩, L.length - 1, rfl, Nat.le_refl _, ?_⟩, below_step HB.out HD.out.below⟩
                  refine Kd.C_of_reads (enc := Value.string) (d := (⟨#[]⟩ : ByteArray)) ⟨htl, by omega, fun hpos => ⟨⟨g, 1, none⟩, rfl, fun j hj => ?_⟩⟩
                  rw [Addr.add_lit]
                  exact (HD.out.below.cell (World.block_lt_of_cell? _ _ (hct.out j (by omega)))).trans (hct.out j (by omega))
    · rw [c1, if_pos rfl] at h
      cases h
      have c2 : s.toList = [47] := by simpa using c1
      go_enter Tryd.func27, Tryd.ntmps27
      go_wp2_with (fail)
      go_ret2
      exact ⟨⟨_, _, rfl, Nat.le_refl _, Kd.C_nil _ _⟩, Below.refl _ _⟩
  · rw [if_neg hd] at h
    cases h
end Go.Proofs.YthbdgahmlggpmaaDoor.Q
