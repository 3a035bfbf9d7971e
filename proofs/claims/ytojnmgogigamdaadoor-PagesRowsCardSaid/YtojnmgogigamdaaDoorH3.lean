/- The contract of pages.Changes over two arrays of 32 strings, for every two lists of pages. -/
import Derived.Test.YtojnmgogigamdaaDoorH2
import Derived.Test.YtojnmgogigamdaaDoorQ17
import Derived.Deep.RegionLaw
namespace Go.Proofs.YtojnmgogigamdaaDoor.Q
open Go.RowKit Go.Proofs.YtojnmgogigamdaaDoorW.PrintWords Go.Proofs.YtojnmgogigamdaaDoorW.PrintLast Go.Proofs.YtojnmgogigamdaaDoorW.PrintMore
set_option linter.unusedVariables false
set_option linter.unusedSimpArgs false
def placeL : List S45 → List ByteArray → List ByteArray
  | [], f => f
  | p :: ps, f => placeL ps (f.set p.f0.toNat p.f1)
def e32 : List ByteArray := List.replicate 32 ⟨#[]⟩
def strC (ss : List ByteArray) : Array Value := (pw_strs ss).toArray
theorem zero65 : ∀ w, (zeroValue 65).run Tryd.prog w = .ok (.agg (strC e32)) w := by intro w; kernel_rfl
theorem placeL_append : ∀ (l m : List S45) (f : List ByteArray), placeL (l ++ m) f = placeL m (placeL l f)
  | [], m, f => rfl
  | p :: ps, m, f => placeL_append ps m _
theorem placeL_length : ∀ (l : List S45) (f : List ByteArray), (placeL l f).length = f.length
  | [], f => rfl
  | p :: ps, f => by rw [placeL, placeL_length ps, List.length_set]
theorem e32_length : e32.length = 32 := List.length_replicate ..
theorem strC_cell {w : World} {g : Nat} {ss : List ByteArray} {t : TypeId} (h : w.heap[g]? = some (.cells (strC ss) t (0, 0))) (i : Nat) (hi : i < ss.length) : w.cell? ⟨g, i, none⟩ = some (.string (ss.getD i ⟨#[]⟩)) := by
  rw [blk_cell h]
  simp [strC, pw_strs, hi, List.getD_eq_getElem?_getD]
theorem strC_set {w : World} {g : Nat} {ss : List ByteArray} {t : TypeId} (h : w.heap[g]? = some (.cells (strC ss) t (0, 0))) (i : Nat) (s : ByteArray) : (w.setCell ⟨g, i, none⟩ (.string s)).heap[g]? = some (.cells (strC (ss.set i s)) t (0, 0)) := by
  rw [heap_setCell_same w g i _ t _ h]
  congr 2
  simp [strC, pw_strs, List.map_set]
def chO (file : Int) (a b : List ByteArray) : Nat → Option (List S67)
  | 0 => some []
  | n + 1 => (chO file a b n).bind fun out => if (a.getD n ⟨#[]⟩).toList = (b.getD n ⟨#[]⟩).toList then some out else (pages_Key.f file (n : Int)).bind fun key => some (out ++ [(⟨key, b.getD n ⟨#[]⟩, (b.getD n ⟨#[]⟩).toList.isEmpty⟩ : S67)])
def pages_Changes.f (k : Nat) (a0 : Int) (l1 l2 : List S45) : Option (List S67 × Int) :=
  (pages_Right.f k l1).bind fun r => if r = true then ((pages_Right.f k l2).bind fun q => if q = true then ((chO a0 (placeL l1 e32) (placeL l2 e32) 32).bind fun c => some (c, 0)) else some ([], 1)) else some ([], 1)
theorem pages_Changes.mono (a0 : Int) (l1 l2 : List S45) (k : Nat) : LeO (pages_Changes.f k a0 l1 l2) (pages_Changes.f (k + 1) a0 l1 l2) :=
  LeO.bind (pages_Right.mono l1 k) (fun _ => LeO.ite (LeO.bind (pages_Right.mono l2 k) (fun _ => LeO.refl _)) (LeO.refl _))
theorem chO_pre (file : Int) (a b : List ByteArray) : ∀ (m n : Nat), n ≤ m → ∀ c, chO file a b m = some c → ∃ o, chO file a b n = some o
  | 0, n, h, c, hc => by obtain rfl : n = 0 := by omega
                         exact ⟨c, hc⟩
  | m + 1, n, h, c, hc => by
    rcases Nat.lt_or_ge m n with h1 | h1
    · obtain rfl : n = m + 1 := by omega
      exact ⟨c, hc⟩
    · obtain ⟨o, ho, _⟩ := Option.bind_eq_some_iff.1 hc
      exact chO_pre file a b m n h1 o ho
theorem chO_len (file : Int) (a b : List ByteArray) : ∀ (n : Nat) (c : List S67), chO file a b n = some c → c.length ≤ n
  | 0, c, h => by obtain rfl := Option.some.inj h
                  exact Nat.le_refl _
  | n + 1, c, h => by
    obtain ⟨o, ho, h⟩ := Option.bind_eq_some_iff.1 h
    have ih := chO_len file a b n o ho
    split at h
    · obtain rfl := Option.some.inj h
      omega
    · obtain ⟨key, _, h⟩ := Option.bind_eq_some_iff.1 h
      obtain rfl := Option.some.inj h
      simp
      omega
theorem ia65 (g n : Nat) (h : n < 32) : ∀ w, (Instr.indexAt 65 (.pointer (some ⟨g, 0, none⟩)) (.int .i64 (n : Int))).run Tryd.prog w = .ok (.pointer (some ⟨g, n, none⟩)) w := by
  intro w
  have hl : Tryd.prog.arrayLen 65 = 32 := by kernel_rfl
  have he : Tryd.prog.elem 65 = 9 := by kernel_rfl
  have hu : Tryd.prog.underlying 65 = some (.array (Tryd.prog.arrayLen 65) (Tryd.prog.elem 65)) := by rw [hl, he]; kernel_rfl
  have hz : ∀ w, (sizeOf 9).run Tryd.prog w = .ok 1 w := by intro w; kernel_rfl
  rw [run_indexAt_array w 65 ⟨g, 0, none⟩ .i64 (n : Int) hu, hl, he]
  have hc : 0 ≤ (n : Int) ∧ (n : Int) < ((32 : Nat) : Int) := by omega
  simp [hc, hz, Result.andThen, add_plain]
  omega
set_option maxHeartbeats 4000000 in
set_option maxRecDepth 100000 in
theorem pages_Changes.calls (k : Nat) (a0 : Int) (A1 : Option Addr) (c1 : Nat) (l1 : List S45) (A2 : Option Addr) (c2 : Nat) (l2 : List S45) (r1 : List S67) (r2 : Int) (w : World) (hr1 : Kd.C k45 w A1 l1.length l1) (hc1 : l1.length ≤ c1) (hr2 : Kd.C k45 w A2 l2.length l2) (hc2 : l2.length ≤ c2) (h : pages_Changes.f k a0 l1 l2 = some (r1, r2)) :
    Calls Tryd.prog 24 #[.int .u32 a0, .slice A1 l1.length c1, .slice A2 l2.length c2] w fun e w' => ∃ v0_ : Value, e = .returned (.tuple #[v0_, .int .i64 r2]) ∧ Kd.R k67 67 w' w.heap.size (fun _ => True) v0_ r1 ∧ Below w.heap.size w w' := by
  have HLEN1 := Aside0.mk (readsrow_len hr1)
  have HLEN2 := Aside0.mk (readsrow_len hr2)
  have HR1 := Aside0.mk hr1
  have HC1 := Aside0.mk hc1
  have HR2 := Aside0.mk hr2
  have HC2 := Aside0.mk hc2
  have hlen1 := readsrow_len hr1
  have hlen2 := readsrow_len hr2
  clear hr1 hc1 hr2 hc2
  unfold pages_Changes.f at h
  obtain ⟨b, hb, h⟩ := Option.bind_eq_some_iff.1 h
  have HA := Aside0.mk hb
  cases b with
  | false =>
    simp only [Bool.false_eq_true, if_false, Option.some.injEq, Prod.mk.injEq] at h
    obtain ⟨rfl, rfl⟩ := h
    clear hb
    go_enter Tryd.func24, Tryd.ntmps24
    go_wp2_with (go_at_call 11; refine (pages_Right.calls k _ _ l1 false _ HR1.out HC1.out HA.out).mono ?_; rintro e w1 ⟨rfl, hb1⟩)
    go_ret2
    exact ⟨_, rfl, Kd.R_nil _ _ _ _ _, hb1⟩
  | true =>
  have HF1 := Aside0.mk (fit_of_right HLEN1.out hb)
  clear hb
  simp only [if_true] at h
  obtain ⟨b2, hb2, h⟩ := Option.bind_eq_some_iff.1 h
  have HA2 := Aside0.mk hb2
  cases b2 with
  | false =>
    simp only [Bool.false_eq_true, if_false, Option.some.injEq, Prod.mk.injEq] at h
    obtain ⟨rfl, rfl⟩ := h
    clear hb2
    go_enter Tryd.func24, Tryd.ntmps24
    go_wp2_with (first | (go_at_call 11; with_reducible refine (pages_Right.calls k A1 c1 l1 true _ HR1.out HC1.out HA.out).mono ?_; rintro e w1 ⟨rfl, hb1⟩) | (go_at_call 11; refine (pages_Right.calls k A2 c2 l2 false _ (Kd.C_below HR2.out hb1) HC2.out HA2.out).mono ?_; rintro e w2 ⟨rfl, hb2⟩))
    go_ret2
    exact ⟨_, rfl, Kd.R_nil _ _ _ _ _, below_step hb1 hb2⟩
  | true =>
  have HF2 := Aside0.mk (fit_of_right HLEN2.out hb2)
  clear hb2
  simp only [if_true] at h
  obtain ⟨cc, hcc, h⟩ := Option.bind_eq_some_iff.1 h
  simp only [Option.some.injEq, Prod.mk.injEq] at h
  obtain ⟨rfl, rfl⟩ := h
  have HCC := Aside0.mk hcc
  clear hcc
  have hz := zero65
  go_enter Tryd.func24, Tryd.ntmps24
  go_wp2_with (first | (go_at_call 11; with_reducible refine (pages_Right.calls k A1 c1 l1 true _ HR1.out HC1.out HA.out).mono ?_; rintro e w1 ⟨rfl, hb1⟩) | (go_at_call 11; refine (pages_Right.calls k A2 c2 l2 true _ (Kd.C_below HR2.out hb1) HC2.out HA2.out).mono ?_; rintro e w2 ⟨rfl, hb2⟩; have HW2 := Aside0.mk (below_step hb1 hb2); clear hb1 hb2))
  obtain ⟨gA, hgA⟩ : ∃ g, g = w2.heap.size := ⟨_, rfl⟩
  have HAB := Aside0.mk (show gA < gA + 1 by omega)
  have HWA := Aside0.mk (show w.heap.size ≤ gA by have := HW2.out.size; omega)
  have K1 := Aside0.mk (heap_alloc2_old w2 (.cells (strC e32) 65) (.cells (strC e32) 65))
  have K2 := Aside0.mk (heap_alloc2_new w2 (.cells (strC e32) 65) (.cells (strC e32) 65))
  have K3 := Aside0.mk (below_alloc (below_alloc HW2.out (.cells (strC e32) 65)) (.cells (strC e32) 65))
  have K4 := Aside0.mk (show gA + 1 < ((w2.alloc (.cells (strC e32) 65)).alloc (.cells (strC e32) 65)).heap.size by simp; omega)
  rw [← hgA] at K1 K2
  simp only [← hgA]
  clear hgA
  generalize (w2.alloc (.cells (strC e32) 65)).alloc (.cells (strC e32) 65) = w3 at K1 K2 K3 K4
  go_loopw [26] (fun v8 wr => ∃ i : Nat, i ≤ l1.length ∧ v8 = .int .i64 i ∧ Aside0 (wr.heap[gA]? = some (.cells (strC (placeL (l1.take i) e32)) 65 (0, 0))) ∧ Aside0 (wr.heap[(gA + 1)]? = some (.cells (strC e32) 65 (0, 0))) ∧ Aside0 (Below w.heap.size w wr) ∧ Aside0 (gA + 1 < wr.heap.size)) (fun v8 _ => l1.length - (intOf v8).toNat)
  case atStart => exact ⟨0, Nat.zero_le _, rfl, K1, K2, K3, K4⟩
  case round =>
    obtain ⟨i, hi, rfl, HA1, HB1, HB, HS⟩ := hrel
    by_cases hlt : i < l1.length
    · obtain ⟨ad, e, hx0, hx1⟩ := at_T45 HR1.out i (by omega) (by omega)
      cases e
      simp only [Int.toNat_natCast] at hx0 hx1
      replace hx0 := (HB.out.cell (World.block_lt_of_cell? w _ hx0)).trans hx0
      replace hx1 := (HB.out.cell (World.block_lt_of_cell? w _ hx1)).trans hx1
      have hp := HF1.out _ (rd_T45_mem l1 i hlt)
      have HT := Aside0.mk (take_snoc45 l1 i hlt)
      generalize rd_T45 l1 (i : Int) = p at hx0 hx1 hp HT
      obtain ⟨p0, ps⟩ := p
      simp only at hx0 hx1
      obtain ⟨h0, h1, _⟩ := hp
      simp only at h0 h1
      obtain ⟨q, rfl⟩ := Int.eq_ofNat_of_zero_le h0
      have hq : q < 32 := by omega
      have hia := ia65 gA q hq
      have hlen := (placeL_length (l1.take i) e32).trans e32_length
      have HL := Aside0.mk hlen
      clear hlen h0 h1
      go_wp2_with (first | ((with_reducible refine gate_dst (N := 11) rfl ?_); (try (refine gate_guard (by rfl) ?_; dsimp only)); refine box_event ?hg (N := 11) ?hd (cs := #[.int .i64 0, .string (⟨#[]⟩ : ByteArray)]) (t := 45) ?hr ?_; (case hd => rfl); (case hg => rfl); (case hr => first | (go_simp; done) | (go_simp; rfl)); intro gb hg w6 hbox hb; have BK := Aside0.mk hbox; have HB6 := Aside0.mk hb; have HG := Aside0.mk hg; clear hbox hb hg; have hc0' := blk_cell BK.out 0; have hc1' := blk_cell BK.out 1; have hf0' := blk_frozen BK.out 0; have hf1' := blk_frozen BK.out 1; have hgA := strC_cell ((HB6.out.block gA (by have := HS.out; have := HAB.out; omega)).trans HA1.out) q (by rw [HL.out]; exact hq); have hfA := blk_frozen ((HB6.out.block gA (by have := HS.out; have := HAB.out; omega)).trans HA1.out) q; have hne : gA ≠ gb := (by have := HG.out; have := HS.out; have := HAB.out; omega); have hne' : gb ≠ gA := hne.symm))
      go_roundw
      case rel =>
        have hA6 := (HB6.out.block gA (by have := HS.out; have := HAB.out; omega)).trans HA1.out
        have hB6 := (HB6.out.block (gA + 1) (by have := HS.out; have := HAB.out; omega)).trans HB1.out
        have hgb : wr.heap.size ≤ gb := by have := HG.out; omega
        have hneB : (gA + 1) ≠ gb := by have := HS.out; have := HAB.out; omega
        have hAB : (gA + 1) ≠ gA := by have := HAB.out; omega
        refine ⟨i + 1, by omega, by go_num, ⟨?_⟩, ⟨?_⟩, ⟨?_⟩, ⟨?_⟩⟩
        · have h1 := strC_set ((heap_set_other _ ⟨gb, 1, none⟩ (.string ps) hne).trans ((heap_set_other _ ⟨gb, 0, none⟩ (.int .i64 (q : Int)) hne).trans hA6)) q ps
          rw [HT.out, placeL_append]
          simpa only [placeL, Int.toNat_natCast] using h1
        · exact (heap_set_other _ _ _ hAB).trans ((heap_set_other _ _ _ hneB).trans ((heap_set_other _ _ _ hneB).trans hB6))
        · exact below_set' (below_set' (below_set' (below_step HB.out HB6.out) (by have := HB.out.size; omega)) (by have := HB.out.size; omega)) (by have := HWA.out; omega)
        · rw [size_set, size_set, size_set]; have := HB6.out.size; have := HS.out; omega
      case measure => simp [intOf]; omega
    · obtain rfl : i = l1.length := by omega
      rw [List.take_length] at HA1
      go_wp2
      clear K1 K2 K3 K4
      go_loopw [38] (fun v8 wr => ∃ i : Nat, i ≤ l2.length ∧ v8 = .int .i64 i ∧ Aside0 (wr.heap[(gA + 1)]? = some (.cells (strC (placeL (l2.take i) e32)) 65 (0, 0))) ∧ Aside0 (wr.heap[gA]? = some (.cells (strC (placeL l1 e32)) 65 (0, 0))) ∧ Aside0 (Below w.heap.size w wr) ∧ Aside0 (gA + 1 < wr.heap.size)) (fun v8 _ => l2.length - (intOf v8).toNat)
      case atStart => exact ⟨0, Nat.zero_le _, rfl, HB1, HA1, HB, HS⟩
      case round =>
        obtain ⟨i, hi, rfl, HA1, HB1, HB, HS⟩ := hrel
        by_cases hlt : i < l2.length
        · obtain ⟨ad, e, hx0, hx1⟩ := at_T45 HR2.out i (by omega) (by omega)
          cases e
          simp only [Int.toNat_natCast] at hx0 hx1
          replace hx0 := (HB.out.cell (World.block_lt_of_cell? w _ hx0)).trans hx0
          replace hx1 := (HB.out.cell (World.block_lt_of_cell? w _ hx1)).trans hx1
          have hp := HF2.out _ (rd_T45_mem l2 i hlt)
          have HT := Aside0.mk (take_snoc45 l2 i hlt)
          generalize rd_T45 l2 (i : Int) = p at hx0 hx1 hp HT
          obtain ⟨p0, ps⟩ := p
          simp only at hx0 hx1
          obtain ⟨h0, h1, _⟩ := hp
          simp only at h0 h1
          obtain ⟨q, rfl⟩ := Int.eq_ofNat_of_zero_le h0
          have hq : q < 32 := by omega
          have hia := ia65 (gA + 1) q hq
          have hlen := (placeL_length (l2.take i) e32).trans e32_length
          have HL := Aside0.mk hlen
          clear hlen h0 h1
          go_wp2_with (first | ((with_reducible refine gate_dst (N := 13) rfl ?_); (try (refine gate_guard (by rfl) ?_; dsimp only)); refine box_event ?hg (N := 13) ?hd (cs := #[.int .i64 0, .string (⟨#[]⟩ : ByteArray)]) (t := 45) ?hr ?_; (case hd => rfl); (case hg => rfl); (case hr => first | (go_simp; done) | (go_simp; rfl)); intro gb hg w6 hbox hb; have BK := Aside0.mk hbox; have HB6 := Aside0.mk hb; have HG := Aside0.mk hg; clear hbox hb hg; have hc0' := blk_cell BK.out 0; have hc1' := blk_cell BK.out 1; have hf0' := blk_frozen BK.out 0; have hf1' := blk_frozen BK.out 1; have hgA := strC_cell ((HB6.out.block (gA + 1) (by have := HS.out; have := HAB.out; omega)).trans HA1.out) q (by rw [HL.out]; exact hq); have hfA := blk_frozen ((HB6.out.block (gA + 1) (by have := HS.out; have := HAB.out; omega)).trans HA1.out) q; have hne : (gA + 1) ≠ gb := (by have := HG.out; have := HS.out; have := HAB.out; omega); have hne' : gb ≠ (gA + 1) := hne.symm))
          go_roundw
          case rel =>
            have hA6 := (HB6.out.block (gA + 1) (by have := HS.out; have := HAB.out; omega)).trans HA1.out
            have hB6 := (HB6.out.block gA (by have := HS.out; have := HAB.out; omega)).trans HB1.out
            have hgb : wr.heap.size ≤ gb := by have := HG.out; omega
            have hneB : gA ≠ gb := by have := HS.out; have := HAB.out; omega
            have hAB : gA ≠ (gA + 1) := by have := HAB.out; omega
            refine ⟨i + 1, by omega, by go_num, ⟨?_⟩, ⟨?_⟩, ⟨?_⟩, ⟨?_⟩⟩
            · have h1 := strC_set ((heap_set_other _ ⟨gb, 1, none⟩ (.string ps) hne).trans ((heap_set_other _ ⟨gb, 0, none⟩ (.int .i64 (q : Int)) hne).trans hA6)) q ps
              rw [HT.out, placeL_append]
              simpa only [placeL, Int.toNat_natCast] using h1
            · exact (heap_set_other _ _ _ hAB).trans ((heap_set_other _ _ _ hneB).trans ((heap_set_other _ _ _ hneB).trans hB6))
            · exact below_set' (below_set' (below_set' (below_step HB.out HB6.out) (by have := HB.out.size; omega)) (by have := HB.out.size; omega)) (by have := HWA.out; omega)
            · rw [size_set, size_set, size_set]; have := HB6.out.size; have := HS.out; omega
          case measure => simp [intOf]; omega
        · obtain rfl : i = l2.length := by omega
          rw [List.take_length] at HA1
          go_wp2
          have HX := Aside0.mk ((placeL_length l1 e32).trans e32_length)
          have HY := Aside0.mk ((placeL_length l2 e32).trans e32_length)
          generalize placeL l1 e32 = X at *
          generalize placeL l2 e32 = Y at *
          go_loopw [14, 48] (fun v14 v48 wq => ∃ (n : Nat) (o : List S67), n ≤ 32 ∧ v48 = .int .i64 n ∧ Aside0 (chO a0 X Y n = some o) ∧ Aside0 (wq.heap[gA]? = some (.cells (strC X) 65 (0, 0))) ∧ Aside0 (wq.heap[gA + 1]? = some (.cells (strC Y) 65 (0, 0))) ∧ Aside0 (Kd.R k67 67 wq w.heap.size (fun k => k ≠ gA ∧ k ≠ gA + 1) v14 o) ∧ Aside0 (Below w.heap.size w wq)) (fun _ v48 _ => 32 - (intOf v48).toNat)
          case atStart => exact ⟨0, [], by omega, rfl, ⟨rfl⟩, HB1, HA1, ⟨Kd.R_nil _ _ _ _ _⟩, HB⟩
          case round =>
            clear HA1 HB1 HB HS
            obtain ⟨n, o, hn, rfl, HC, KA, KB, HO, HB⟩ := hrel
            by_cases hlt : n < 32
            · obtain ⟨o2, ho2⟩ := chO_pre a0 X Y 32 (n + 1) (by omega) cc HCC.out
              have HC2 := Aside0.mk ho2
              have ha := strC_cell KA.out n (by rw [HX.out]; exact hlt)
              have hb := strC_cell KB.out n (by rw [HY.out]; exact hlt)
              have hiA := ia65 gA n hlt
              have hiB := ia65 (gA + 1) n hlt
              have LO := Aside0.mk (chO_len a0 X Y n o HC.out)
              have LA := Aside0.mk (World.block_lt_of_cell? wr _ ha)
              have LB := Aside0.mk (World.block_lt_of_cell? wr _ hb)
              unfold chO at ho2
              rw [HC.out] at ho2
              simp only [Option.bind_some] at ho2
              generalize X.getD n ⟨#[]⟩ = sa at ha ho2
              generalize Y.getD n ⟨#[]⟩ = sb at hb ho2
              by_cases heq : sa.toList = sb.toList
              · rw [if_pos heq] at ho2
                obtain rfl := Option.some.inj ho2
                have e1 : (sa.toList == sb.toList) = true := beq_iff_eq.mpr heq
                have e2 : (sa.toList != sb.toList) = false := bne_eq_false_iff_eq.mpr heq
                clear heq ho2
                go_wp2
                go_quiet (fail)
                go_wp2
                go_roundw
                case rel => exact ⟨n + 1, _, by omega, by go_num, HC2, ⟨KA.out⟩, ⟨KB.out⟩, ⟨by (with_reducible repeat (first | apply Kd.R_alloc | apply Kd.R_drewN | apply Kd.R_drew)); exact HO.out⟩, ⟨pw_below_drewN HB.out _⟩⟩
                case measure => simp [intOf]; omega
              · rw [if_neg heq] at ho2
                obtain ⟨key, hkey, ho2⟩ := Option.bind_eq_some_iff.1 ho2
                obtain rfl := Option.some.inj ho2
                have HKEY := Aside0.mk hkey
                have e1 : (sa.toList == sb.toList) = false := beq_eq_false_iff_ne.mpr heq
                have e2 : (sa.toList != sb.toList) = true := bne_iff_ne.mpr heq
                clear heq ho2 hkey
                go_wp2
                go_quiet (fail)
                go_wp2
                generalize hW5 : World.drewN _ _ = w5
                have E5 : Aside0 (∀ k : Nat, w5.heap[k]? = wr.heap[k]?) := ⟨fun k => by rw [← hW5]; rfl⟩
                have S5 : Aside0 (w5.heap.size = wr.heap.size) := ⟨by rw [← hW5]; rfl⟩
                have hb5 : w5.cell? ⟨gA + 1, n, none⟩ = some (.string sb) := by rw [← hW5]; exact hb
                have HO5 := Aside0.mk (show Kd.R k67 67 w5.drew w.heap.size (fun k => k ≠ gA ∧ k ≠ gA + 1) u14 o by rw [← hW5]; (with_reducible repeat (first | apply Kd.R_alloc | apply Kd.R_drewN | apply Kd.R_drew)); exact HO.out)
                have HB5 := Aside0.mk (show Below w.heap.size w w5.drew by rw [← hW5]; exact below_drew (pw_below_drewN HB.out _))
                clear hW5 ha hb
                go_region_law (first | (refine Kd.R_append_step k67 (w0 := w) w.heap.size rfl (.tmp 58) (.tmp 70) 49 67 (.agg #[(.string ⟨#[]⟩), (.string ⟨#[]⟩), (.bool false)]) 40 rfl Tryd.underlying49 info67 rfl (by decide) (by omega) u14 o (⟨key, sb, sb.toList.isEmpty⟩ : S67) [.string key, .string sb, .bool sb.toList.isEmpty] (fun k => k ≠ gA ∧ k ≠ gA + 1) (fun _ => False) rfl rfl ?aP (fun _ hk => hk.elim) ?aF HOK.out HBK.out ?aS ?aL ?_; (case aP => exact k67_mkM _ _ _ (⟨key, sb, sb.toList.isEmpty⟩ : S67)); (case aF => exact (fun k hk => by have := LK.out; omega)); (case aS => exact below_size HBK.out); (case aL => have := LO.out; omega); intro v1 w1 ho hb hg hat; have HO1 := Aside0.mk ho; have HB1 := Aside0.mk hb; have HG1 := Aside0.mk hg; clear ho hb hg hat) | (go_simp; go_at_call 23; refine (pages_Key.calls a0 n key _ HKEY.out).mono ?_; rintro e wk ⟨rfl, hbk⟩; have hbK : wk.cell? ⟨gA + 1, n, none⟩ = some (.string sb) := (hbk.cell (p := ⟨gA + 1, n, none⟩) (show gA + 1 < w5.heap.size by have := LB.out; have := S5.out; simp at *; omega)).trans hb5; have HOK := Aside0.mk (Kd.R_below HO5.out hbk); have HBK := Aside0.mk (below_step HB5.out hbk); have LK := Aside0.mk (show gA + 1 < wk.heap.size by have := hbk.size; have := LB.out; have := S5.out; simp at *; omega); have HbK := Aside0.mk hbk; clear hbk))
                all_goals
                  go_wp2
                  go_roundw
                  case rel =>
                    have kk : ∀ j : Nat, j ≤ gA + 1 → (j = gA ∨ j = gA + 1) → w1.heap[j]? = wr.heap[j]? := fun j hj he => (HG1.out.block j (by have := LK.out; omega) (fun e => by have := HO.out.1 j e.symm; omega)).trans ((HbK.out.block j (show j < w5.heap.size by have := LB.out; have := S5.out; simp at *; omega)).trans (E5.out j))
                    exact ⟨n + 1, _, by omega, by go_num, HC2, ⟨(kk gA (by omega) (.inl rfl)).trans KA.out⟩, ⟨(kk (gA + 1) (by omega) (.inr rfl)).trans KB.out⟩, HO1, HB1⟩
                  case measure => simp [intOf]; omega
            · obtain rfl : n = 32 := by omega
              have e := HC.out
              rw [HCC.out] at e
              obtain rfl := Option.some.inj e
              clear e
              go_wp2
              go_ret2
              exact ⟨_, rfl, Kd.R_mono HO.out (fun _ _ => trivial), HB.out⟩

end Go.Proofs.YtojnmgogigamdaaDoor.Q
