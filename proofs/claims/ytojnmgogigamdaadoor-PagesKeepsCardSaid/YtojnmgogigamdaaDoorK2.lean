/- The walk of PagesKeeps: what is handed in is neither changed nor kept. -/
import Derived.Test.YtojnmgogigamdaaDoorK1
import Derived.Test.YtojnmgogigamdaaDoorPC
import Derived.Test.YtojnmgogigamdaaDoorQ1
namespace Go.Proofs.YtojnmgogigamdaaDoor.Q
open Go.RowKit Go.Proofs.YtojnmgogigamdaaDoorW.PrintWords Go.Proofs.YtojnmgogigamdaaDoorW.PrintLast Go.Proofs.YtojnmgogigamdaaDoorW.PrintMore
set_option linter.unusedVariables false
set_option linter.unusedSimpArgs false
attribute [local go_sem high] eqA45
/-- What holds while the room is written: the world, and the answers and their copies. -/
structure St (w wr : World) (g : Nat) (vs : List (Value × List S45)) : Prop where
  below : Below w.heap.size w wr
  own : ∀ p ∈ vs, Own wr g p.1 p.2
theorem St.step {w wr w1 : World} {g : Nat} {vs : List (Value × List S45)} (h : St w wr g vs) (hb : Below wr.heap.size wr w1) : St w w1 g vs :=
  ⟨below_step h.below hb, fun p hp => (h.own p hp).below hb⟩
theorem St.set {w wr : World} {g : Nat} {vs : List (Value × List S45)} (h : St w wr g vs) (hg : w.heap.size ≤ g) (cs : Array Value) : St w (wr.setRow g cs) g vs :=
  ⟨below_setRow h.below hg _, fun p hp => (h.own p hp).set cs⟩
theorem St.reads {w wr : World} {g : Nat} {vs : List (Value × List S45)} (h : St w wr g vs) (A : Option Addr) (c : Nat) (X : List S45) (hm : ((Value.slice A X.length c), X) ∈ vs) : Kd.C k45 wr A X.length X := by
  obtain ⟨A', c', h1, h2, h3, h4⟩ := h.own _ hm
  injection h1 with e1 e2 e3
  subst e1
  exact h3
theorem rd45_get (l : List S45) (j : Nat) (h : j < l.length) : rd_T45 l (j : Int) = l[j] := by
  show l.getD _ _ = _
  rw [Int.toNat_natCast, List.getD_eq_getElem?_getD, List.getElem?_eq_getElem h]
  rfl
theorem foldL_len (f : List Int) (hf : Flat f) : (foldL f).length ≤ 32 := (fold_obj hf).length
theorem put_some (l : List S45) (h : l.length ≤ 200) (a : Int) (d : ByteArray) : ∃ X e, pages_Put.f 300 l a d = some (X, e) ∧ X.length ≤ 32 ∧ (e ≠ 0 → X = []) := by
  by_cases hb : okF (-1) l = true
  · have hO := (ok_obj l).1 hb
    by_cases hi : inB a d.size = true
    · obtain ⟨h1, h2, h3, h4⟩ := inB_iff.1 hi
      exact ⟨_, _, put_ok (by omega) hO hi, foldL_len _ (flat_splice (flat_F hO) (by omega)), fun h => absurd rfl h⟩
    · exact ⟨_, _, put_out (by omega) hO (by simpa using hi), by simp, fun _ => rfl⟩
  · exact ⟨_, _, put_bad h (by omega) (by simpa using hb), by simp, fun _ => rfl⟩
theorem cut_some (l : List S45) (h : l.length ≤ 200) (a : Int) : ∃ X e, pages_Cut.f 300 l a = some (X, e) ∧ X.length ≤ 32 ∧ (e ≠ 0 → X = []) := by
  by_cases hb : okF (-1) l = true
  · have hO := (ok_obj l).1 hb
    by_cases hi : 0 ≤ a
    · exact ⟨_, _, cut_ok (by omega) hO hi, foldL_len _ (flat_cut (flat_F hO) _), fun h => absurd rfl h⟩
    · exact ⟨_, _, cut_neg (by omega) hO (by omega), by simp, fun _ => rfl⟩
  · exact ⟨_, _, cut_bad h (by omega) (by simpa using hb), by simp, fun _ => rfl⟩
set_option maxHeartbeats 8000000 in
set_option maxRecDepth 100000 in
theorem pkeeps_c (A0 : Option Addr) (c0 : Nat) (l : List S45) (a1 : Int) (a2 : ByteArray) (w : World) (hr0 : Kd.C k45 w A0 l.length l) (hc0 : l.length ≤ c0) :
    Calls Tryd.prog 8 #[.slice A0 l.length c0, .int .i64 a1, .string a2] w fun e w' => e = .returned (.bool true) ∧ Below w.heap.size w w' := by
  have HLEN := Aside0.mk (readsrow_len hr0)
  have HR0 := Aside0.mk hr0
  have HC0 := Aside0.mk hc0
  have hAl := Aside0.mk (fun w => w7_alive.calls 40 true w alive_40)
  clear hr0 hc0
  by_cases hg : 200 < l.length
  · go_enter Tryd.func8, Tryd.ntmps8
    go_wp2_with (first
      | (go_at_call 10; refine (hAl.out _).mono ?_; rintro e w2 ⟨rfl, hb2⟩; have HB2 := Aside0.mk (below_step HB1.out hb2); clear hb2)
      | (go_at_call 10; refine (hAl.out _).mono ?_; rintro e w1 ⟨rfl, hb1⟩; have HB1 := Aside0.mk hb1; clear hb1))
    go_ret
    exact ⟨rfl, HB2.out⟩
  by_cases hg2 : 2000 < a2.size
  · go_enter Tryd.func8, Tryd.ntmps8
    go_wp2_with (first
      | (go_at_call 10; refine (hAl.out _).mono ?_; rintro e w2 ⟨rfl, hb2⟩; have HB2 := Aside0.mk (below_step HB1.out hb2); clear hb2)
      | (go_at_call 10; refine (hAl.out _).mono ?_; rintro e w1 ⟨rfl, hb1⟩; have HB1 := Aside0.mk hb1; clear hb1))
    go_ret
    exact ⟨rfl, HB2.out⟩
  have hlen : l.length ≤ 200 := by omega
  obtain ⟨X, e1, hput, hXl, he1⟩ := put_some l hlen a1 a2
  obtain ⟨Y, e2, hcutf, hYl, he2⟩ := cut_some l hlen a1
  have HPUT := Aside0.mk hput
  have HCUT := Aside0.mk hcutf
  have HXL := Aside0.mk hXl
  have HYL := Aside0.mk hYl
  clear hput hcutf hXl hYl
  go_enter Tryd.func8, Tryd.ntmps8
  go_upto_region 5 with (go_at_call 10; refine (hAl.out _).mono ?_; rintro e w2 ⟨rfl, hb2⟩; have HB2 := Aside0.mk hb2; clear hb2)
  clear hg hg2
  obtain ⟨i0, hi0, hz0, hs5, hb5⟩ := info_parts info45
  have hmk : ∀ w : World, (Instr.makeSlice 22 (.int .i64 (l.length : Int)) (.int .i64 ((l.length : Int) + 3))).run Tryd.prog w = .ok (.slice (some ⟨w.heap.size, 0, none⟩) l.length (l.length + 3)) (w.alloc (.cells (pcel (List.replicate (l.length + 3) zI)).toArray 45)) := by
    intro w
    have h := run_make (P := Tryd.prog) w 22 45 i0 _ Tryd.underlying22 hi0 hz0 .i64 .i64 (l.length : Int) ((l.length : Int) + 3) (by omega) (by omega) (by rw [hb5]; omega) (by omega)
    rw [hs5, show ((l.length : Int) + 3).toNat = l.length + 3 by omega, Int.toNat_natCast] at h
    rw [← made_pcel]
    exact h
  clear hz0 hb5
  go_upto_region 6 with (fail)
  have hroom0 : Room (w2.alloc (.cells (pcel (List.replicate (l.length + 3) zI)).toArray 45)) w2.heap.size (List.replicate (l.length + 3) zI) := heap_alloc_new w2 _
  have HB3 := Aside0.mk (below_alloc HB2.out (.cells (pcel (List.replicate (l.length + 3) zI)).toArray 45))
  have HG := Aside0.mk (show w.heap.size ≤ w2.heap.size from HB2.out.size)
  have HLT := Aside0.mk (lt_alloc w2 (.cells (pcel (List.replicate (l.length + 3) zI)).toArray 45))
  clear hmk HB2
  generalize w2.alloc (.cells (pcel (List.replicate (l.length + 3) zI)).toArray 45) = w3 at hroom0 HB3 HLT ⊢
  generalize w2.heap.size = g at hroom0 HG HLT ⊢
  have hcp : ∀ ty, (Builtin.copy_ #[22, 22] ty #[.slice (some ⟨g, 0, none⟩) l.length (l.length + 3), .slice A0 l.length c0]).run Tryd.prog w3 = .ok (goInt l.length) (w3.setRow g (pcel (l ++ List.replicate 3 zI)).toArray) := by
    intro ty
    have h := run_copy_room (P := Tryd.prog) w3 ty g (l.length + 3) c0 A0 l _ Tryd.underlying22 (by kernel_rfl) (Kd.C_below HR0.out HB3.out) hroom0 (by omega) (by rw [List.size_toArray, pcel_length, List.length_replicate])
    rw [List.toList_toArray, pcel_drop, List.drop_replicate, show l.length + 3 - l.length = 3 by omega, ← pcel_append] at h
    exact h
  have HCP := Aside0.mk hcp
  have HRM := Aside0.mk (show Room (w3.setRow g (pcel (l ++ List.replicate 3 zI)).toArray) g (l ++ List.replicate 3 zI) from setRow_heap _ _ _ _ _ _ hroom0)
  have HB4 := Aside0.mk (below_setRow HB3.out HG.out (pcel (l ++ List.replicate 3 zI)).toArray)
  have HLT4 := Aside0.mk (show g < (w3.setRow g (pcel (l ++ List.replicate 3 zI)).toArray).heap.size by rw [setRow_size]; exact HLT.out)
  clear hcp hroom0 HLT
  go_upto_region 7 with ((with_reducible refine gate_builtin (b := .copy) (xs := #[.tmp 34, .tmp 35]) rfl ?_); (refine wpList_copy_runI _ rfl (.tmp 34) (.tmp 35) 22 22 rfl (.slice (some ⟨g, 0, none⟩) l.length (l.length + 3)) (.slice A0 l.length c0) rfl rfl (HCP.out _) ?_))
  clear HCP
  generalize w3.setRow g (pcel (l ++ List.replicate 3 zI)).toArray = w4 at HRM HB4 HLT4 ⊢
  have hRl : (l ++ List.replicate 3 zI).length ≤ 1000 := by simp; omega
  go_upto_region 8 with (go_at_call 18; refine (pages_Put.calls 300 (some ⟨g, 0, none⟩) (l.length + 3) l a1 a2 X e1 w4 (HRM.out.old hRl) (by omega) HPUT.out).mono ?_; rintro e w5 ⟨va, rfl, hoa, hba⟩; have HOa := Aside0.mk (Own.ofR hoa HLT4.out); have HRM5 := Aside0.mk (HRM.out.below hba); have HB5 := Aside0.mk (below_step HB4.out hba); have HLT5 := Aside0.mk (Nat.lt_of_lt_of_le HLT4.out hba.size); clear hoa hba)
  clear HRM HB4 HLT4 HPUT
  go_upto_region 9 with (go_at_call 19; refine (pages_Cut.calls 300 (some ⟨g, 0, none⟩) (l.length + 3) l a1 Y e2 w5 (HRM5.out.old hRl) (by omega) HCUT.out).mono ?_; rintro e w6 ⟨vb, rfl, hob, hbb⟩; have HOb := Aside0.mk (Own.ofR hob HLT5.out); have HOa6 := Aside0.mk (HOa.out.below hbb); have HRM6 := Aside0.mk (HRM5.out.below hbb); have HB6 := Aside0.mk (below_step HB5.out hbb); have HLT6 := Aside0.mk (Nat.lt_of_lt_of_le HLT5.out hbb.size); clear hob hbb)
  clear HRM5 HB5 HLT5 HOa HCUT
  obtain ⟨Aa, ca, rfl, hca, hCa, hna⟩ := HOa6.out
  have HCa := Aside0.mk hCa
  clear hCa
  go_upto_region 10 with (first
    | ((with_reducible refine gate_dst (N := 50) rfl ?_); refine Kd.R_lit k45 (w0 := w6) w6.heap.size 45 ?hg (N := 50) ?hd (xs := ([] : List S45)) (inner := []) (ok := fun _ => True) (okp := fun _ => True) ?hr ?hp (fun _ hk => hk) trivial (Below.refl _ _) (Nat.le_refl _) (by simp) ?_; (case hd => rfl); (case hg => rfl); (case hr => first | (go_simp; done) | (go_simp; rfl)); (case hp => exact (Reps.none _ _)); intro v50 w20 ho20 hb20 hg_ hnew_; clear hg_ hnew_; have HO20 := Aside0.mk ho20; have HB20 := Aside0.mk hb20; clear ho20 hb20)
    | ((with_reducible refine gate_builtin (b := .append) (xs := #[.tmp 50, .tmp 51]) rfl ?_); at_builtin; refine Kd.R_append_rows k45 (w0 := w6) w6.heap.size rfl (.tmp 50) (.tmp 51) 22 45 (.agg #[(.int .i64 0), (.string ⟨#[]⟩)]) 24 rfl Tryd.underlying22 info45 rfl (by decide) (by omega) v50 ([] : List S45) X _ _ _ (fun _ => True) (fun _ => False) rfl rfl ?aO ?aR (fun _ _ h => h) (fun _ h => h.elim) (fun _ _ => trivial) ?aB ?aS ?aL ?_; (case aR => exact (Kd.C_below HCa.out HB20.out)); (case aB => exact HB20.out); (case aO => exact HO20.out); (case aS => exact HB20.out.size); (case aL => have := HXL.out; simp; omega); intro v52 w21 ho21 hb21 hg_ hat_; clear hg_ hat_; rw [List.nil_append] at ho21; have HO21 := Aside0.mk (Own.ofR ho21 HLT6.out); have HB21 := Aside0.mk hb21; clear ho21 hb21))
  obtain ⟨Ab, cb, rfl, hcb, hCb, hnb⟩ := HOb.out
  have HOa7 := Aside0.mk (HOa6.out.below HB21.out)
  have HOb7 := Aside0.mk (HOb.out.below HB21.out)
  have HRM7 := Aside0.mk (HRM6.out.below HB21.out)
  have HB7 := Aside0.mk (below_step HB6.out HB21.out)
  have HLT7 := Aside0.mk (Nat.lt_of_lt_of_le HLT6.out HB21.out.size)
  have HCb := Aside0.mk (Kd.C_below hCb HB21.out)
  clear hCb HCa HOa6 HOb HRM6 HB6 HLT6 HO20 HB20 HB21
  obtain ⟨An, cn, rfl, hcn, hCn, hnn⟩ := HO21.out
  clear hCn
  go_upto_region 11 with (first
    | ((with_reducible refine gate_dst (N := 53) rfl ?_); refine Kd.R_lit k45 (w0 := w21) w21.heap.size 45 ?hg (N := 53) ?hd (xs := ([] : List S45)) (inner := []) (ok := fun _ => True) (okp := fun _ => True) ?hr ?hp (fun _ hk => hk) trivial (Below.refl _ _) (Nat.le_refl _) (by simp) ?_; (case hd => rfl); (case hg => rfl); (case hr => first | (go_simp; done) | (go_simp; rfl)); (case hp => exact (Reps.none _ _)); intro v53 w22 ho22 hb22 hg_ hnew_; clear hg_ hnew_; have HO22 := Aside0.mk ho22; have HB22 := Aside0.mk hb22; clear ho22 hb22)
    | ((with_reducible refine gate_builtin (b := .append) (xs := #[.tmp 53, .tmp 54]) rfl ?_); at_builtin; refine Kd.R_append_rows k45 (w0 := w21) w21.heap.size rfl (.tmp 53) (.tmp 54) 22 45 (.agg #[(.int .i64 0), (.string ⟨#[]⟩)]) 24 rfl Tryd.underlying22 info45 rfl (by decide) (by omega) v53 ([] : List S45) Y _ _ _ (fun _ => True) (fun _ => False) rfl rfl ?aO ?aR (fun _ _ h => h) (fun _ h => h.elim) (fun _ _ => trivial) ?aB ?aS ?aL ?_; (case aR => exact (Kd.C_below HCb.out HB22.out)); (case aB => exact HB22.out); (case aO => exact HO22.out); (case aS => exact HB22.out.size); (case aL => have := HYL.out; simp; omega); intro v55 w23 ho23 hb23 hg_ hat_; clear hg_ hat_; rw [List.nil_append] at ho23; have HO23 := Aside0.mk (Own.ofR ho23 HLT7.out); have HB23 := Aside0.mk hb23; clear ho23 hb23))
  obtain ⟨Am, cm, rfl, hcm, hCm, hnm⟩ := HO23.out
  clear hCm
  have HST := Aside0.mk (show St w w23 g [(.slice Aa X.length ca, X), (.slice Ab Y.length cb, Y), (.slice An X.length cn, X), (.slice Am Y.length cm, Y)] from ⟨below_step HB7.out HB23.out, by
    intro p hp
    simp only [List.mem_cons, List.not_mem_nil, or_false] at hp
    rcases hp with rfl | rfl | rfl | rfl
    · exact HOa7.out.below HB23.out
    · exact HOb7.out.below HB23.out
    · exact HO21.out.below HB23.out
    · exact HO23.out⟩)
  have HRM8 := Aside0.mk (HRM7.out.below HB23.out)
  clear HOa7 HOb7 HO21 HO23 HRM7 HB7 HLT7 HO22 HB22 HCb HB23
  have HS0 := Aside0.mk (same_k hlen (rfl : l = l) (k := 300) (by omega))
  have HSX := Aside0.mk (same_k (show X.length ≤ 200 by have := HXL.out; omega) (rfl : X = X) (k := 300) (by omega))
  have HSY := Aside0.mk (same_k (show Y.length ≤ 200 by have := HYL.out; omega) (rfl : Y = Y) (k := 300) (by omega))
  go_wp2_with (go_at_call 20; refine (r7_Same.calls 300 (some ⟨g, 0, none⟩) (l.length + 3) l A0 c0 l true w23 (HRM8.out.old hRl) (by omega) (Kd.C_below HR0.out HST.out.below) HC0.out HS0.out).mono ?_; rintro e w5r ⟨rfl, hb5r⟩; have HST5 := Aside0.mk (HST.out.step hb5r.below); have HRM5 := Aside0.mk (HRM8.out.below hb5r.below); clear hb5r)
  clear HST HRM8 HS0
  go_loopw [14] (fun v14 wr => ∃ (j : Nat) (Z : List S45), j ≤ l.length ∧ v14 = .int .i64 j ∧ Z.length = l.length + 3 ∧ Aside0 (Z.drop l.length = List.replicate 3 zI) ∧ Aside0 (St w wr g [(.slice Aa X.length ca, X), (.slice Ab Y.length cb, Y), (.slice An X.length cn, X), (.slice Am Y.length cm, Y)]) ∧ Aside0 (Room wr g Z)) (fun v14 _ => l.length - (intOf v14).toNat)
  case atStart => exact ⟨0, _, Nat.zero_le _, rfl, by simp, ⟨by simp⟩, HST5, HRM5⟩
  case round =>
    obtain ⟨j, Z, hj, rfl, hZ, HZ3, HST6, HRM6⟩ := hrel
    by_cases hjl : j < l.length
    · have hi45 : Aside0 ((Tryd.prog.info? 45).map (·.size) = some 2) := ⟨by kernel_rfl⟩
      have hfit : j * 2 + 2 ≤ (pcel Z).toArray.size := by rw [List.size_toArray, pcel_length]; omega
      go_wp2_with (refine wpList_store_at rfl 45 (.tmp 69) (.tmp 68) rfl g (j * 2) #[.int .i64 31, .string ⟨#[103, 111, 110, 101]⟩] (pcel Z).toArray 45 rfl rfl HRM6.out hfit hi45.out ?hone ?_; (case hone => exact fun v hv => pcel_one [⟨31, ⟨#[103, 111, 110, 101]⟩⟩] v (by simpa [pcel, c2] using hv)))
      have hXn : Room (wr.setRow g (pcel (Z.set j ⟨31, ⟨#[103, 111, 110, 101]⟩⟩)).toArray) g (Z.set j ⟨31, ⟨#[103, 111, 110, 101]⟩⟩) := setRow_heap _ _ _ _ _ _ HRM6.out
      have hSn := HST6.out.set HG.out (pcel (Z.set j ⟨31, ⟨#[103, 111, 110, 101]⟩⟩)).toArray
      rw [pcel_set Z _ j (by omega)] at hXn hSn
      simp only [c2, List.append_assoc, List.cons_append, List.nil_append] at hXn hSn
      have HXn := Aside0.mk hXn
      have HSn := Aside0.mk hSn
      have hd3 : (Z.set j ⟨31, ⟨#[103, 111, 110, 101]⟩⟩).drop l.length = List.replicate 3 zI := by
        rw [List.drop_set_of_lt (by omega)]
        exact HZ3.out
      exact ⟨⟨j + 1, _, by omega, by go_num, by rw [List.length_set]; exact hZ, ⟨hd3⟩, HSn, HXn⟩, by simp [intOf]; omega⟩
    · obtain rfl : j = l.length := by omega
      have hcut := cut_all (P := Tryd.prog) Tryd.underlying22 hi0 (some ⟨g, 0, none⟩) l.length (l.length + 3) ((l.length : Int) + 3) (by omega) (by omega)
      rw [show ((l.length : Int) + 3).toNat = l.length + 3 by omega] at hcut
      go_wp2_with (fail)
      clear hcut
      go_loopw [16] (fun v16 wr => ∃ j : Nat, l.length ≤ j ∧ j ≤ l.length + 3 ∧ v16 = .int .i64 j ∧ Aside0 (St w wr g [(.slice Aa X.length ca, X), (.slice Ab Y.length cb, Y), (.slice An X.length cn, X), (.slice Am Y.length cm, Y)]) ∧ Aside0 (Room wr g Z)) (fun v16 _ => l.length + 3 - (intOf v16).toNat)
      case atStart => exact ⟨l.length, by omega, by omega, rfl, HST6, HRM6⟩
      case round =>
        obtain ⟨j, hj1, hj2, rfl, HST3, HRM3⟩ := hrel
        by_cases hjl : j < l.length + 3
        · have hC := HRM3.out.reads Z.length (Nat.le_refl _) (by omega)
          rw [List.take_length] at hC
          obtain ⟨ad, e, x0, x1⟩ := at_T45 hC (j : Int) (by omega) (by omega)
          cases e
          have ea : (⟨g, 0, none⟩ : Addr).add (j * 2) = ⟨g, j * 2, none⟩ := by
            simp only [Addr.add]
            split
            · rename_i h; rw [h]
            · simp
          simp only [Int.toNat_natCast, ea] at x0 x1
          have hx : rd_T45 Z (j : Int) = zI := by
            rw [rd45_get _ _ (by omega)]
            have h1 : Z[j]? = some zI := by
              have h2 : (Z.drop l.length)[j - l.length]? = some zI := by rw [HZ3.out, List.getElem?_replicate, if_pos (by omega)]
              rw [List.getElem?_drop, show l.length + (j - l.length) = j by omega] at h2
              exact h2
            exact (List.getElem?_eq_some_iff.1 h1).2
          rw [hx] at x0 x1
          clear hx ea hC
          have y0 : wr.cell? ⟨g, j * 2, none⟩ = some (.int .i64 0) := x0
          have y1 : wr.cell? ⟨g, j * 2 + 1, none⟩ = some (.string ⟨#[]⟩) := x1
          clear x0 x1
          go_wp2_with (fail)
          exact ⟨⟨j + 1, by omega, by omega, by go_num, HST3, HRM3⟩, by simp [intOf]; omega⟩
        · obtain rfl : j = l.length + 3 := by omega
          have hk1 : e1 ≠ 0 → (X.length : Int) = 0 := fun h => by rw [he1 h]; rfl
          have hk2 : e2 ≠ 0 → (Y.length : Int) = 0 := fun h => by rw [he2 h]; rfl
          clear he1 he2
          by_cases hz1 : e1 = 0
          · by_cases hz2 : e2 = 0
            · clear hk1 hk2
              go_wp2_with (first
                  | (go_at_call 10; refine (hAl.out _).mono ?_; rintro e w8r ⟨rfl, hb8⟩; have HST4 := Aside0.mk (HST3.out.step hb8); clear hb8)
                  | (go_at_call 20; (with_reducible refine (r7_Same.calls 300 Aa ca X An cn X true _ ?s1 hca ?s2 hcn HSX.out).mono ?_); (case s1 => exact HST4.out.reads Aa ca X (by simp)); (case s2 => exact HST4.out.reads An cn X (by simp)); rintro e w9r ⟨rfl, hb9⟩; have HST9 := Aside0.mk (HST4.out.step hb9.below); clear hb9)
                  | (go_at_call 20; (with_reducible refine (r7_Same.calls 300 Ab cb Y Am cm Y true _ ?s1 hcb ?s2 hcm HSY.out).mono ?_); (case s1 => exact HST9.out.reads Ab cb Y (by simp)); (case s2 => exact HST9.out.reads Am cm Y (by simp)); rintro e w10r ⟨rfl, hb10⟩; have HST10 := Aside0.mk (HST9.out.step hb10.below); clear hb10))
              go_ret
              exact ⟨rfl, HST10.out.below⟩
            · have hy0 := hk2 hz2
              clear hk1 hk2
              go_wp2_with (first
                  | (go_at_call 10; refine (hAl.out _).mono ?_; rintro e w8r ⟨rfl, hb8⟩; have HST4 := Aside0.mk (HST3.out.step hb8); clear hb8)
                  | (go_at_call 20; (with_reducible refine (r7_Same.calls 300 Aa ca X An cn X true _ ?s1 hca ?s2 hcn HSX.out).mono ?_); (case s1 => exact HST4.out.reads Aa ca X (by simp)); (case s2 => exact HST4.out.reads An cn X (by simp)); rintro e w9r ⟨rfl, hb9⟩; have HST9 := Aside0.mk (HST4.out.step hb9.below); clear hb9)
                  | (go_at_call 20; (with_reducible refine (r7_Same.calls 300 Ab cb Y Am cm Y true _ ?s1 hcb ?s2 hcm HSY.out).mono ?_); (case s1 => exact HST9.out.reads Ab cb Y (by simp)); (case s2 => exact HST9.out.reads Am cm Y (by simp)); rintro e w10r ⟨rfl, hb10⟩; have HST10 := Aside0.mk (HST9.out.step hb10.below); clear hb10))
              go_ret
              exact ⟨rfl, HST10.out.below⟩
          · have hx0 := hk1 hz1
            by_cases hz2 : e2 = 0
            · clear hk1 hk2
              go_wp2_with (first
                  | (go_at_call 10; refine (hAl.out _).mono ?_; rintro e w8r ⟨rfl, hb8⟩; have HST4 := Aside0.mk (HST3.out.step hb8); clear hb8)
                  | (go_at_call 20; (with_reducible refine (r7_Same.calls 300 Aa ca X An cn X true _ ?s1 hca ?s2 hcn HSX.out).mono ?_); (case s1 => exact HST4.out.reads Aa ca X (by simp)); (case s2 => exact HST4.out.reads An cn X (by simp)); rintro e w9r ⟨rfl, hb9⟩; have HST9 := Aside0.mk (HST4.out.step hb9.below); clear hb9)
                  | (go_at_call 20; (with_reducible refine (r7_Same.calls 300 Ab cb Y Am cm Y true _ ?s1 hcb ?s2 hcm HSY.out).mono ?_); (case s1 => exact HST9.out.reads Ab cb Y (by simp)); (case s2 => exact HST9.out.reads Am cm Y (by simp)); rintro e w10r ⟨rfl, hb10⟩; have HST10 := Aside0.mk (HST9.out.step hb10.below); clear hb10))
              go_ret
              exact ⟨rfl, HST10.out.below⟩
            · have hy0 := hk2 hz2
              clear hk1 hk2
              go_wp2_with (first
                  | (go_at_call 10; refine (hAl.out _).mono ?_; rintro e w8r ⟨rfl, hb8⟩; have HST4 := Aside0.mk (HST3.out.step hb8); clear hb8)
                  | (go_at_call 20; (with_reducible refine (r7_Same.calls 300 Aa ca X An cn X true _ ?s1 hca ?s2 hcn HSX.out).mono ?_); (case s1 => exact HST4.out.reads Aa ca X (by simp)); (case s2 => exact HST4.out.reads An cn X (by simp)); rintro e w9r ⟨rfl, hb9⟩; have HST9 := Aside0.mk (HST4.out.step hb9.below); clear hb9)
                  | (go_at_call 20; (with_reducible refine (r7_Same.calls 300 Ab cb Y Am cm Y true _ ?s1 hcb ?s2 hcm HSY.out).mono ?_); (case s1 => exact HST9.out.reads Ab cb Y (by simp)); (case s2 => exact HST9.out.reads Am cm Y (by simp)); rintro e w10r ⟨rfl, hb10⟩; have HST10 := Aside0.mk (HST9.out.step hb10.below); clear hb10))
              go_ret
              exact ⟨rfl, HST10.out.below⟩
def w7_PagesKeeps.f (k : Nat) (l : List S45) (a1 : Int) (a2 : ByteArray) : Option Bool := some true
theorem w7_PagesKeeps.calls (k : Nat) (A0 : Option Addr) (c0 : Nat) (l0 : List S45) (a1 : Int) (a2 : ByteArray) (r : Bool) (w : World) (hr0 : Kd.C k45 w A0 l0.length l0) (hc0 : l0.length ≤ c0) (h : w7_PagesKeeps.f k l0 a1 a2 = some r) :
    Calls Tryd.prog 8 #[.slice A0 l0.length c0, .int .i64 a1, .string a2] w fun e w' => e = .returned (.bool r) ∧ Below w.heap.size w w' := by
  obtain rfl : true = r := Option.some.inj h
  exact pkeeps_c A0 c0 l0 a1 a2 w hr0 hc0
end Go.Proofs.YtojnmgogigamdaaDoor.Q
