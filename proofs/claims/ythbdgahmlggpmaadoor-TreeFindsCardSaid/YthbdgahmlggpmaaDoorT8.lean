/- The contract of tree.List. -/
import Derived.Test.YthbdgahmlggpmaaDoorM10
import Derived.Test.YthbdgahmlggpmaaDoorShb
import Derived.Sort.OwnSorted
namespace Go.Proofs.YthbdgahmlggpmaaDoor.Q
open Go.RowKit Go.Proofs.YthbdgahmlggpmaaDoorW.PrintWords Go.Proofs.YthbdgahmlggpmaaDoorW.PrintLast Go.Proofs.YthbdgahmlggpmaaDoorW.PrintMore
set_option linter.unusedVariables false
set_option linter.unusedSimpArgs false
theorem strs_reps : ∀ (xs : List ByteArray) (cs : List Value), Reps (fun (s : ByteArray) c => c = [Value.string s]) 1 xs cs → cs = xs.map Value.string := by
  intro xs cs h
  apply List.ext_getElem?
  intro j
  have hl : cs.length = xs.length := by have := h.1; omega
  by_cases hj : j < xs.length
  · have := h.2 j _ (List.getElem?_eq_getElem hj)
    rw [List.getElem?_map, List.getElem?_eq_getElem hj]
    have h2 := congrArg (·[0]?) this
    simp only [List.getElem?_take, List.getElem?_drop] at h2
    simpa using h2
  · rw [List.getElem?_eq_none (by omega), List.getElem?_eq_none (by simp; omega)]
theorem strs_of_R {w : World} {base : Nat} {ok : Nat → Prop} {v : Value} {xs : List ByteArray} (h : Kd.R Kd.string 9 w base ok v xs) : w.ownsRow base 9 1 v xs.length (xs.map Value.string) := by
  obtain ⟨_, inner, hown, hrep⟩ := h
  have := strs_reps xs inner hrep
  rw [← this]
  exact hown
theorem R_of_strs {w : World} {base : Nat} {v : Value} {xs : List ByteArray} (h : w.ownsRow base 9 1 v xs.length (xs.map Value.string)) : Kd.R Kd.string 9 w base (fun _ => True) v xs := by
  refine ⟨fun _ _ => trivial, _, h, (by rw [List.length_map]; exact (Nat.mul_one _).symm), fun j p hj => ?_⟩
  show ((xs.map Value.string).drop (j * 1)).take 1 = [Value.string p]
  obtain ⟨hl, rfl⟩ := List.getElem?_eq_some_iff.1 hj
  rw [Nat.mul_one, List.drop_eq_getElem_cons (by simpa using hl)]
  simp
/-- The names in byte order. -/
def sortB (xs : List ByteArray) : List ByteArray := ((xs.map fun s => s.data.toList).mergeSort fun a b => decide (a ≤ b)).map fun l => ⟨l.toArray⟩
theorem sortB_len (xs : List ByteArray) : (sortB xs).length = xs.length := by simp [sortB]
theorem encs (xs : List ByteArray) : (xs.map fun s => s.data.toList).map encStr = xs.map Value.string := by
  rw [List.map_map]
  apply List.map_congr_left
  intro x _
  simp [encStr]
theorem sortB_vals (xs : List ByteArray) : (sortB xs).map Value.string = ((xs.map fun s => s.data.toList).mergeSort fun a b => decide (a ≤ b)).map encStr := by
  unfold sortB
  rw [List.map_map]
  rfl
def listF (l : List S34) (s : ByteArray) : List ByteArray × Int :=
  if (findF l s).2 = 0 then (if (findF l s).1.f3 = true then (sortB ((kidsI l (findF l s).1.f0).map fun y => y.f2), 0) else ([], 10)) else ([], (findF l s).2)
/-- slices.Sort of strings that the call has built. -/
theorem sort_c (W0 : World) (v : Value) (xs : List ByteArray) (w : World) (hl : xs.length ≤ 1000) (h : Kd.R Kd.string 9 w W0.heap.size (fun _ => True) v xs) (hB : Below W0.heap.size W0 w) :
    Calls Tryd.prog 59 #[v] w fun e w' => e = .returned (.tuple #[]) ∧ Kd.R Kd.string 9 w' W0.heap.size (fun _ => True) v (sortB xs) ∧ Below W0.heap.size W0 w' := by
  have hown := strs_of_R h
  rcases hown.2 with ⟨hv, h0⟩ | ⟨g, cap, cur, hv, hbase, hg, h1, h2, h3, h4⟩
  · subst hv
    have hx := List.length_eq_zero_iff.1 h0
    subst hx
    refine (Tryd.slices_Sort_string_none none 0 w).mono fun e w' hh => ⟨hh.1, ?_, ?_⟩
    · rw [hh.2]
      rw [show sortB [] = [] by simp [sortB]]
      exact Kd.R_nil Kd.string 9 w W0.heap.size (fun _ => True)
    · rw [hh.2]
      exact hB
  · subst hv
    have hx : (xs.map fun s => s.data.toList).length = xs.length := by simp
    have hH : Go.Sort.Holds encStr w g 0 (xs.map fun s => s.data.toList).toArray := holds_of_block hg (by rw [encs, hx]; simpa using h4)
    have hc := Tryd.slices_Sort_string g 0 cap (xs.map fun s => s.data.toList) w hH (Array.getElem?_eq_some_iff.1 hg).1 (by rw [hx]; omega)
    rw [hx] at hc
    refine hc.mono fun e w' hh => ⟨hh.1, ?_, ?_⟩
    · obtain ⟨n, os, hw⟩ := hh.2
      have ho := ownsRow_sorted (w := w) (base := W0.heap.size) (g := g) (cap := cap) (n := n) (os := os) (ss := xs.map fun s => s.data.toList) (ts := (xs.map fun s => s.data.toList).mergeSort fun x y => decide (x ≤ y)) (by simp) hbase hg (by rw [hx]; exact h1) h2 (by simpa using h3)
      rw [← hw, ← sortB_vals, hx] at ho
      have := sortB_len xs
      have hr := R_of_strs (w := w') (base := W0.heap.size) (xs := sortB xs) (v := .slice (some ⟨g, 0, none⟩) xs.length cap) (by rw [this]; exact ho)
      exact hr
    · obtain ⟨n, os, hw⟩ := hh.2
      have hgr := grownBy_sorted (w := w) (g := g) (n := n) (os := os) ((xs.map fun s => s.data.toList).mergeSort fun x y => decide (x ≤ y)).toArray
      rw [← hw] at hgr
      exact hB.grown hgr hB.size (by intro k hk; injection hk with hk; omega)
set_option maxHeartbeats 8000000 in
set_option maxRecDepth 100000 in
theorem list_c (A0 : Option Addr) (c0 : Nat) (l : List S34) (s : ByteArray) (w : World) (hr0 : Kd.C k34 w A0 l.length l) (hc0 : l.length ≤ c0) (hw : wfL l = true) (hs : s.size ≤ 100000) (hl40 : (findF l s).2 = 0 → l.length ≤ 40) :
    Calls Tryd.prog 30 #[.slice A0 l.length c0, .string s] w fun e w' => ∃ v0_ : Value, e = .returned (.tuple #[v0_, .int .i64 (listF l s).2]) ∧ Kd.R Kd.string 9 w' w.heap.size (fun _ => True) v0_ (listF l s).1 ∧ Below w.heap.size w w' := by
  have HR0 := Aside0.mk hr0
  have HC0 := Aside0.mk hc0
  have hF := Aside0.mk (find_c A0 c0 l s w hr0 hc0 hw hs)
  obtain ⟨res, hres⟩ : ∃ r, r = listF l s := ⟨_, rfl⟩
  rw [← hres]
  unfold listF at hres
  have HRES := Aside0.mk hres
  have HL := Aside0.mk hl40
  clear hr0 hc0 hw hres hl40
  generalize findF l s = f at HRES hF HL
  obtain ⟨x, ef⟩ := f
  simp only at HRES hF HL
  obtain ⟨ks, hks⟩ : ∃ ks, ks = kidsI l x.f0 := ⟨_, rfl⟩
  rw [← hks] at HRES
  have HKS := Aside0.mk hks
  clear hks
  go_enter Tryd.func30, Tryd.ntmps30
  go_upto_region 2 with (go_at_call 26; refine hF.out.mono ?_; rintro e w1 ⟨rfl, hb1⟩; have HB1 := Aside0.mk hb1; clear hb1)
  clear hF
  have BK2 := Aside0.mk (heap_alloc_new w1 (.cells #[.int .u32 x.f0, .int .u32 x.f1, .string x.f2, .bool x.f3, .int .u32 x.f4] 34))
  have HB2 := Aside0.mk (below_alloc HB1.out (.cells #[.int .u32 x.f0, .int .u32 x.f1, .string x.f2, .bool x.f3, .int .u32 x.f4] 34))
  clear HB1
  generalize w1.alloc (.cells #[.int .u32 x.f0, .int .u32 x.f1, .string x.f2, .bool x.f3, .int .u32 x.f4] 34) = w2 at BK2 HB2 ⊢
  generalize w1.heap.size = g6 at BK2 ⊢
  have k0 : w2.cell? ⟨g6, 0, none⟩ = some (.int .u32 x.f0) := (blk_cell BK2.out 0).trans rfl
  have k3 : w2.cell? ⟨g6, 3, none⟩ = some (.bool x.f3) := (blk_cell BK2.out 3).trans rfl
  by_cases h0 : ef = 0
  rotate_left
  · have e0 : (ef != 0) = true := bne_iff_ne.2 h0
    have hR : res = ([], ef) := by have := HRES.out; rwa [if_neg h0] at this
    subst hR
    clear HRES HL
    go_wp2_with (fail)
    go_ret2
    exact ⟨_, rfl, Kd.R_nil _ _ _ _ _, HB2.out⟩
  subst h0
  have hl40 := HL.out rfl
  have hR := HRES.out
  rw [if_pos rfl] at hR
  clear HRES HL
  cases hd : x.f3
  · rw [hd] at k3 hR
    have hR : res = ([], 10) := by rw [hR, if_neg (by decide)]
    subst hR
    go_wp2_with (fail)
    go_ret2
    exact ⟨_, rfl, Kd.R_nil _ _ _ _ _, HB2.out⟩
  rw [hd] at k3 hR
  rw [if_pos rfl] at hR
  subst hR
  have hKs := Aside0.mk (tree_kids.calls (l.length + 1) A0 c0 l x.f0 _ w2 (Kd.C_below HR0.out HB2.out) HC0.out (kids_f l (by omega) x.f0 _ (by omega)))
  have hkl : (kidsI l x.f0).length ≤ l.length := by unfold kidsI; exact List.length_filter_le _ _
  rw [← HKS.out] at hKs hkl
  clear HKS
  go_wp2_with (go_at_call 40; refine hKs.out.mono ?_; rintro e w3 ⟨v3, rfl, ho3, hb3⟩; obtain ⟨A3, c3, rfl⟩ := Kd.R_slice ho3; have HC3 := Aside0.mk (Kd.R_reads' ho3).2.2; have HB3 := Aside0.mk (below_step HB2.out hb3); clear hb3 ho3)
  clear hKs k0 k3 BK2 HB2
  go_loopw [8, 30] (fun v8 v30 wr => ∃ i : Nat, i ≤ ks.length ∧ v30 = .int .i64 i ∧ Aside0 (Kd.R Kd.string 9 wr w3.heap.size (fun _ => True) v8 ((ks.take i).map fun y => y.f2)) ∧ Aside0 (Below w3.heap.size w3 wr)) (fun _ v30 _ => ks.length - (intOf v30).toNat)
  case atStart => exact ⟨0, Nat.zero_le _, rfl, ⟨Kd.R_nil _ _ _ _ _⟩, ⟨Below.refl _ _⟩⟩
  case round =>
    obtain ⟨i, hi, rfl, HO8, HBW⟩ := hrel
    by_cases hlt : i < ks.length
    · obtain ⟨ad, e, x0, x1, x2, x3, x4⟩ := at_T34 (Kd.C_below HC3.out HBW.out) (i : Int) (by omega) (by omega)
      cases e
      simp only [Int.toNat_natCast] at x0 x1 x2 x3 x4
      have hx : rd_T34 ks (i : Int) = ks[i] := rd34_get ks i hlt
      have HT := Aside0.mk (show (ks.take (i + 1)).map (fun y => y.f2) = (ks.take i).map (fun y => y.f2) ++ [(rd_T34 ks (i : Int)).f2] by rw [hx, List.take_add_one, List.getElem?_eq_getElem hlt, List.map_append]; rfl)
      have HTL := Aside0.mk (show ((ks.take i).map fun y => y.f2).length ≤ 1000 by rw [List.length_map, List.length_take]; omega)
      clear hx
      generalize (ks.take i).map (fun y => y.f2) = ns at HT HTL HO8
      generalize rd_T34 ks (i : Int) = y at x0 x1 x2 x3 x4 HT
      go_upto_region 10 with (fail)
      have BKy := Aside0.mk (heap_alloc_new wr (.cells #[.int .u32 y.f0, .int .u32 y.f1, .string y.f2, .bool y.f3, .int .u32 y.f4] 34))
      have HBy := Aside0.mk (below_alloc HBW.out (.cells #[.int .u32 y.f0, .int .u32 y.f1, .string y.f2, .bool y.f3, .int .u32 y.f4] 34))
      have HO9 := Aside0.mk (Kd.R_alloc HO8.out (.cells #[.int .u32 y.f0, .int .u32 y.f1, .string y.f2, .bool y.f3, .int .u32 y.f4] 34))
      clear x0 x1 x2 x3 x4 HO8 HBW
      generalize wr.alloc (.cells #[.int .u32 y.f0, .int .u32 y.f1, .string y.f2, .bool y.f3, .int .u32 y.f4] 34) = w4 at BKy HBy HO9 ⊢
      generalize wr.heap.size = gy at BKy ⊢
      have y2 : w4.cell? ⟨gy, 2, none⟩ = some (.string y.f2) := (blk_cell BKy.out 2).trans rfl
      go_wp2_with ((with_reducible refine gate_builtin (b := .append) (xs := #[.tmp 34, .tmp 37]) rfl ?_); at_builtin; refine Kd.R_append Kd.string (w0 := w3) w3.heap.size rfl (.tmp 34) (.tmp 37) 54 9 (.string ⟨#[]⟩) 16 rfl Tryd.underlying54 info9 rfl (by decide) (by omega) _ ns y.f2 [.string y.f2] (fun _ => True) (fun _ => False) rfl rfl ?aP (fun _ hk => hk.elim) (fun _ _ => trivial) ?aO ?aB ?aS ?aL ?_; (case aP => exact rfl); (case aB => exact HBy.out); (case aO => exact HO9.out); (case aS => exact HBy.out.size); (case aL => have := HTL.out; omega); intro v38 w5 ho5 hb5 hg_ hat_; clear hg_ hat_; rw [← HT.out] at ho5; have HO5 := Aside0.mk ho5; have HB5 := Aside0.mk hb5; clear ho5 hb5)
      exact ⟨⟨i + 1, by omega, by go_num, HO5, HB5⟩, by simp [intOf]; omega⟩
    · obtain rfl : i = ks.length := by omega
      have HO8' := HO8.out
      rw [List.take_length] at HO8'
      have hSo := Aside0.mk (sort_c w3 _ _ wr (by rw [List.length_map]; omega) HO8' HBW.out)
      clear HO8'
      go_wp2_with (go_at_call 59; refine hSo.out.mono ?_; rintro e w6 ⟨rfl, ho6, hb6⟩; have HO6 := Aside0.mk (Kd.R_lower ho6 HB3.out.size); have HB6 := Aside0.mk (below_step HB3.out hb6); clear ho6 hb6)
      go_ret2
      exact ⟨_, rfl, HO6.out, HB6.out⟩
end Go.Proofs.YthbdgahmlggpmaaDoor.Q
