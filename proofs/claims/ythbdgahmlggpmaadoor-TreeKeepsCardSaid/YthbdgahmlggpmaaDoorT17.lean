/- The walk of TreeKeeps: what is handed in is neither changed nor kept. -/
import Derived.Test.YthbdgahmlggpmaaDoorT17a
import Derived.Test.YthbdgahmlggpmaaDoorR7a
import Derived.Test.YthbdgahmlggpmaaDoorR6
import Derived.Test.YthbdgahmlggpmaaDoorQ7
import Derived.Test.YthbdgahmlggpmaaDoorQ13
namespace Go.Proofs.YthbdgahmlggpmaaDoor.Q
open Go.RowKit Go.Proofs.YthbdgahmlggpmaaDoorW.PrintWords Go.Proofs.YthbdgahmlggpmaaDoorW.PrintLast Go.Proofs.YthbdgahmlggpmaaDoorW.PrintMore
set_option linter.unusedVariables false
set_option linter.unusedSimpArgs false
attribute [local go_sem high] eqA34
theorem made_flat (m : Nat) : (madeCells #[.int .u32 0, .int .u32 0, .string ⟨#[]⟩, .bool false, .int .u32 0] (m * 5)).toList = flat (List.replicate m zI) := by
  apply List.ext_getElem?
  intro j
  by_cases hj : j < m * 5
  · have hq : j / 5 < (List.replicate m zI).length := by rw [List.length_replicate]; omega
    have hf := flat_at (List.replicate m zI) (j / 5) _ (List.getElem?_eq_getElem hq)
    rw [List.getElem_replicate] at hf
    have h2 : (flat (List.replicate m zI))[j]? = (c5 zI)[j % 5]? := by
      rw [← hf, List.getElem?_take, if_pos (by omega), List.getElem?_drop, show j / 5 * 5 + j % 5 = j by omega]
    rw [h2]
    have h3 : (madeCells #[.int .u32 0, .int .u32 0, .string ⟨#[]⟩, .bool false, .int .u32 0] (m * 5)).toList[j]? = some ((#[.int .u32 0, .int .u32 0, .string ⟨#[]⟩, .bool false, .int .u32 0] : Array Value)[j % 5]!) := by
      unfold madeCells
      rw [Array.toList_map, Array.toList_range, List.getElem?_map, List.getElem?_range hj]
      rfl
    rw [h3]
    have h5 : j % 5 < 5 := by omega
    generalize j % 5 = r at h5
    match r, h5 with
    | 0, _ => rfl
    | 1, _ => rfl
    | 2, _ => rfl
    | 3, _ => rfl
    | 4, _ => rfl
  · rw [List.getElem?_eq_none (by rw [Array.length_toList, size_madeCells]; omega), List.getElem?_eq_none (by rw [flat_length, List.length_replicate]; omega)]
/-- The room: a block whose cells are those of a list. -/
def Room (w : World) (g : Nat) (X : List S34) : Prop := w.heap[g]? = some (.cells (flat X).toArray 34 (0, 0))
theorem Room.row {w : World} {g : Nat} {X : List S34} (h : Room w g X) (n : Nat) (hn : n ≤ X.length) (hx : X.length ≤ 1000) : Row w g X.length (flat X).toArray (X.take n) :=
  ⟨h, by rw [List.length_take]; omega, by omega, by rw [List.size_toArray, flat_length], by rw [List.toList_toArray, List.length_take, Nat.min_eq_left hn, flat_take]⟩
theorem Room.reads {w : World} {g : Nat} {X : List S34} (h : Room w g X) (n : Nat) (hn : n ≤ X.length) (hx : X.length ≤ 1000) : Kd.C k34 w (some ⟨g, 0, none⟩) (X.take n).length (X.take n) :=
  (Kd.R_reads' (R_of_row (base := 0) (h.row n hn hx) (Nat.zero_le _))).2.2
theorem Room.old {w : World} {g : Nat} {l r : List S34} (h : Room w g (l ++ r)) (hx : (l ++ r).length ≤ 1000) : Kd.C k34 w (some ⟨g, 0, none⟩) l.length l := by
  have := h.reads l.length (by simp) hx
  rwa [List.take_left] at this
theorem Room.below {w w1 : World} {g : Nat} {X : List S34} (h : Room w g X) (hb : Below w.heap.size w w1) : Room w1 g X := blk_below h hb
theorem resizeF_len (l : List S34) (hl : l.length ≤ 100) (id size : Int) : (resizeF l id size).1.length ≤ 101 := by
  unfold resizeF
  repeat' split
  all_goals first | (simp; done) | skip
  have := putI_len l (sized (gI (findI l id)) size)
  show (putI l _).length ≤ 101
  omega
set_option maxHeartbeats 8000000 in
set_option maxRecDepth 100000 in
theorem keeps_c (A0 : Option Addr) (c0 : Nat) (l : List S34) (a1 a2 : ByteArray) (id size : Int) (w : World) (hr0 : Kd.C k34 w A0 l.length l) (hc0 : l.length ≤ c0) (hw : wfL l = true) (hid0 : 0 ≤ id) (hid1 : id ≤ 4294967295) (hsz0 : 0 ≤ size) (hsz1 : size ≤ 4294967295) :
    Calls Tryd.prog 9 #[.slice A0 l.length c0, .string a1, .string a2, .int .u32 id, .int .u32 size] w fun e w' => e = .returned (.bool true) ∧ Below w.heap.size w w' := by
  have HR0 := Aside0.mk hr0
  have HC0 := Aside0.mk hc0
  have HW := Aside0.mk hw
  have hAl := Aside0.mk (fun w => w10_alive.calls true w rfl)
  clear hr0 hc0 hw
  rcases great_cases l a1 a2 200 (by omega) with hg | ⟨hg, hlen, hs1, hs2⟩
  · have HG := Aside0.mk hg
    clear hg
    go_enter Tryd.func9, Tryd.ntmps9
    go_wp2_with (first
      | (go_at_call 12; refine (w10_great.calls 200 A0 c0 l a1 a2 true _ (Kd.C_below HR0.out HB1.out) HC0.out HG.out).mono ?_; rintro e w2 ⟨rfl, hb2⟩; have HB2 := Aside0.mk (below_step HB1.out hb2.below); clear hb2)
      | (go_at_call 11; refine (hAl.out _).mono ?_; rintro e w3 ⟨rfl, hb3⟩; have HB3 := Aside0.mk (below_step HB2.out hb3); clear hb3)
      | (go_at_call 11; refine (hAl.out _).mono ?_; rintro e w1 ⟨rfl, hb1⟩; have HB1 := Aside0.mk hb1; clear hb1))
    go_ret
    exact ⟨rfl, HB3.out⟩
  have HG := Aside0.mk hg
  clear hg
  obtain ⟨rn, hrn, hrn2⟩ := ren_met HW.out hlen hs1 hs2
  have hrl : rn.1.length ≤ 100 := by
    rcases hrn2 with ⟨_, h⟩ | ⟨_, _, a, b, _, _, k, hk, _, _, p, hp, _, _, h⟩
    · rw [h]; simp
    · rcases h with ⟨_, h⟩ | ⟨_, h, _⟩
      · rw [h]; exact hlen
      · rw [h, List.length_set]; exact hlen
  clear hrn2
  have HRN := Aside0.mk hrn
  clear hrn
  go_enter Tryd.func9, Tryd.ntmps9
  go_upto_region 5 with (first
    | (go_at_call 12; refine (w10_great.calls 200 A0 c0 l a1 a2 false _ (Kd.C_below HR0.out HB1.out) HC0.out HG.out).mono ?_; rintro e w2 ⟨rfl, hb2⟩; have HB2 := Aside0.mk (below_step HB1.out hb2.below); clear hb2)
    | (go_at_call 11; refine (hAl.out _).mono ?_; rintro e w1 ⟨rfl, hb1⟩; have HB1 := Aside0.mk hb1; clear hb1))
  clear HG HB1
  obtain ⟨i0, hi0, hz0, hs5, hb5⟩ := info_parts info34
  have hmk : ∀ w : World, (Instr.makeSlice 22 (.int .i64 (l.length : Int)) (.int .i64 ((l.length : Int) + 4))).run Tryd.prog w = .ok (.slice (some ⟨w.heap.size, 0, none⟩) l.length (l.length + 4)) (w.alloc (.cells (flat (List.replicate (l.length + 4) zI)).toArray 34)) := by
    intro w
    have h := run_make (P := Tryd.prog) w 22 34 i0 _ Tryd.underlying22 hi0 hz0 .i64 .i64 (l.length : Int) ((l.length : Int) + 4) (by omega) (by omega) (by rw [hb5]; omega) (by omega)
    rw [hs5, show ((l.length : Int) + 4).toNat = l.length + 4 by omega, Int.toNat_natCast] at h
    rw [← made_flat]
    exact h
  clear hz0 hb5
  go_upto_region 6 with (fail)
  have hroom0 : Room (w2.alloc (.cells (flat (List.replicate (l.length + 4) zI)).toArray 34)) w2.heap.size (List.replicate (l.length + 4) zI) := heap_alloc_new w2 _
  have HB3 := Aside0.mk (below_alloc HB2.out (.cells (flat (List.replicate (l.length + 4) zI)).toArray 34))
  have HG := Aside0.mk (show w.heap.size ≤ w2.heap.size from HB2.out.size)
  have HLT := Aside0.mk (lt_alloc w2 (.cells (flat (List.replicate (l.length + 4) zI)).toArray 34))
  clear hmk HB2
  generalize w2.alloc (.cells (flat (List.replicate (l.length + 4) zI)).toArray 34) = w3 at hroom0 HB3 HLT ⊢
  generalize w2.heap.size = g at hroom0 HG HLT ⊢
  have hcp : ∀ ty, (Builtin.copy_ #[22, 22] ty #[.slice (some ⟨g, 0, none⟩) l.length (l.length + 4), .slice A0 l.length c0]).run Tryd.prog w3 = .ok (goInt l.length) (w3.setRow g (flat (l ++ List.replicate 4 zI)).toArray) := by
    intro ty
    have h := run_copy_room (P := Tryd.prog) w3 ty g (l.length + 4) c0 A0 l _ Tryd.underlying22 (by kernel_rfl) (Kd.C_below HR0.out HB3.out) hroom0 (by omega) (by rw [List.size_toArray, flat_length, List.length_replicate])
    rw [List.toList_toArray, flat_drop, List.drop_replicate, show l.length + 4 - l.length = 4 by omega, ← flat_append] at h
    exact h
  have HCP := Aside0.mk hcp
  have HRM := Aside0.mk (show Room (w3.setRow g (flat (l ++ List.replicate 4 zI)).toArray) g (l ++ List.replicate 4 zI) from setRow_heap _ _ _ _ _ _ hroom0)
  have HB4 := Aside0.mk (below_setRow HB3.out HG.out (flat (l ++ List.replicate 4 zI)).toArray)
  have HLT4 := Aside0.mk (show g < (w3.setRow g (flat (l ++ List.replicate 4 zI)).toArray).heap.size by rw [setRow_size]; exact HLT.out)
  clear hcp hroom0 HLT
  go_upto_region 7 with ((with_reducible refine gate_builtin (b := .copy) (xs := #[.tmp 41, .tmp 42]) rfl ?_); (refine wpList_copy_runI _ rfl (.tmp 41) (.tmp 42) 22 22 rfl (.slice (some ⟨g, 0, none⟩) l.length (l.length + 4)) (.slice A0 l.length c0) rfl rfl (HCP.out _) ?_))
  clear HCP
  generalize w3.setRow g (flat (l ++ List.replicate 4 zI)).toArray = w4 at HRM HB4 HLT4 ⊢
  have hXl : (l ++ List.replicate 4 zI).length ≤ 1000 := by simp; omega
  have hwf := HW.out
  go_upto_region 8 with (go_at_call 22; refine (make_c (some ⟨g, 0, none⟩) (l.length + 4) l a1 id true w4 (HRM.out.old hXl) (by omega) HW.out (by omega) hid0 hid1).mono ?_; rintro e w5 ⟨va, rfl, hoa, hba⟩; have HOa := Aside0.mk (Own.ofR hoa HLT4.out); have HRM5 := Aside0.mk (HRM.out.below hba); have HB5 := Aside0.mk (below_step HB4.out hba); have HLT5 := Aside0.mk (Nat.lt_of_lt_of_le HLT4.out hba.size); clear hoa hba)
  clear HRM HB4 HLT4
  go_upto_region 9 with (go_at_call 24; refine (rem_c (some ⟨g, 0, none⟩) (l.length + 4) l a1 false w5 (HRM5.out.old hXl) (by omega) HW.out (by omega)).mono ?_; rintro e w6 ⟨vb, rfl, hob, hbb⟩; have HOb := Aside0.mk (Own.ofR hob HLT5.out); have HOa6 := Aside0.mk (HOa.out.below hbb); have HRM6 := Aside0.mk (HRM5.out.below hbb); have HB6 := Aside0.mk (below_step HB5.out hbb); have HLT6 := Aside0.mk (Nat.lt_of_lt_of_le HLT5.out hbb.size); clear hob hbb)
  clear HRM5 HB5 HLT5 HOa
  generalize hx_ : (remF l a1 false).2.1 = xr
  have hbA := below_alloc (Below.refl w6.heap.size w6) (.cells #[.int .u32 xr.f0, .int .u32 xr.f1, .string xr.f2, .bool xr.f3, .int .u32 xr.f4] 34)
  have HOa7 := Aside0.mk (HOa6.out.below hbA)
  have HOb7 := Aside0.mk (HOb.out.below hbA)
  have HRM7 := Aside0.mk (HRM6.out.below hbA)
  have HB7 := Aside0.mk (below_alloc HB6.out (.cells #[.int .u32 xr.f0, .int .u32 xr.f1, .string xr.f2, .bool xr.f3, .int .u32 xr.f4] 34))
  have HLT7 := Aside0.mk (Nat.lt_of_lt_of_le HLT6.out hbA.size)
  clear hbA HRM6 HB6 HLT6 HOa6 HOb hx_
  generalize w6.alloc (.cells #[.int .u32 xr.f0, .int .u32 xr.f1, .string xr.f2, .bool xr.f3, .int .u32 xr.f4] 34) = w7 at HOa7 HOb7 HRM7 HB7 HLT7 ⊢
  go_upto_region 10 with (go_at_call 13; refine (tree_Rename.calls (some ⟨g, 0, none⟩) (l.length + 4) l a1 a2 rn.1 rn.2 w7 (HRM7.out.old hXl) (by omega) HRN.out).mono ?_; rintro e w8 ⟨vc, rfl, hoc, hbc⟩; have HOc := Aside0.mk (Own.ofR hoc HLT7.out); have HOa8 := Aside0.mk (HOa7.out.below hbc); have HOb8 := Aside0.mk (HOb7.out.below hbc); have HRM8 := Aside0.mk (HRM7.out.below hbc); have HB8 := Aside0.mk (below_step HB7.out hbc); have HLT8 := Aside0.mk (Nat.lt_of_lt_of_le HLT7.out hbc.size); clear hoc hbc)
  clear HRM7 HB7 HLT7 HOa7 HOb7
  go_upto_region 11 with (go_at_call 20; refine (resize_c (some ⟨g, 0, none⟩) (l.length + 4) l id size w8 (HRM8.out.old hXl) (by omega) HW.out hid0 hid1).mono ?_; rintro e w9 ⟨vd, rfl, hod, hbd⟩; have HOd9 := Aside0.mk (Own.ofR hod HLT8.out); have HOa9 := Aside0.mk (HOa8.out.below hbd); have HOb9 := Aside0.mk (HOb8.out.below hbd); have HOc9 := Aside0.mk (HOc.out.below hbd); have HRM9 := Aside0.mk (HRM8.out.below hbd); have HB9 := Aside0.mk (below_step HB8.out hbd); have HLT9 := Aside0.mk (Nat.lt_of_lt_of_le HLT8.out hbd.size); clear hod hbd)
  clear HRM8 HB8 HLT8 HOa8 HOb8 HOc HRN
  have hLa := makeF_len l hlen a1 id true
  have hLb := remF_len l hlen a1 false
  have hLd := resizeF_len l hlen id size
  generalize (makeF l a1 id true).1 = La at HOa9 hLa
  generalize (remF l a1 false).1 = Lb at HOb9 hLb
  generalize (resizeF l id size).1 = Ld at HOd9 hLd
  generalize rn.1 = Lc at HOc9 hrl
  obtain ⟨Aa, ca, rfl, _⟩ := HOa9.out
  obtain ⟨Ab, cb, rfl, _⟩ := HOb9.out
  obtain ⟨Ac, cc, rfl, _⟩ := HOc9.out
  obtain ⟨Ad, cd, rfl, _⟩ := HOd9.out
  go_upto_region 13 with (fail)
  obtain ⟨us, hus⟩ : ∃ us : Array Value, us = #[Value.slice Aa La.length ca, Value.slice Ab Lb.length cb, Value.slice Ac Lc.length cc, Value.slice Ad Ld.length cd] := ⟨_, rfl⟩
  obtain ⟨Ls, hLs⟩ : ∃ Ls : Nat → List S34, Ls = fun j => [La, Lb, Lc, Ld].getD j [] := ⟨_, rfl⟩
  have hLl : ∀ j : Nat, (Ls j).length ≤ 101 := by
    intro j
    rw [hLs]
    match j with
    | 0 => exact hLa
    | 1 => exact hLb
    | 2 => exact Nat.le_trans hrl (by omega)
    | 3 => exact hLd
    | j + 4 => simp
  have hbl := below_alloc (Below.refl w9.heap.size w9) (.cells us 22)
  have hU : ∀ j : Nat, j < 4 → ∃ A c, us[j]? = some (.slice A (Ls j).length c) ∧ (Ls j).length ≤ c ∧ Own (w9.alloc (.cells us 22)) g (.slice A (Ls j).length c) (Ls j) := by
    have e : ∀ (A : Option Addr) (c : Nat) (L : List S34), Own w9 g (.slice A L.length c) L → L.length ≤ c := by
      rintro A c L ⟨A', c', h1, h2, _⟩
      injection h1 with h3 h4 h5
      omega
    intro j hj
    rw [hus, hLs]
    match j, hj with
    | 0, _ => exact ⟨Aa, ca, rfl, e _ _ _ HOa9.out, by rw [← hus]; exact HOa9.out.below hbl⟩
    | 1, _ => exact ⟨Ab, cb, rfl, e _ _ _ HOb9.out, by rw [← hus]; exact HOb9.out.below hbl⟩
    | 2, _ => exact ⟨Ac, cc, rfl, e _ _ _ HOc9.out, by rw [← hus]; exact HOc9.out.below hbl⟩
    | 3, _ => exact ⟨Ad, cd, rfl, e _ _ _ HOd9.out, by rw [← hus]; exact HOd9.out.below hbl⟩
  rw [← hus]
  have HU := Aside0.mk hU
  have HLL := Aside0.mk hLl
  have HRM10 := Aside0.mk (HRM9.out.below hbl)
  have HB10 := Aside0.mk (below_alloc HB9.out (.cells us 22))
  have HBL := Aside0.mk (heap_alloc_new w9 (.cells us 22))
  have HGL := Aside0.mk (show g ≠ w9.heap.size from Nat.ne_of_lt HLT9.out)
  have HLT10 := Aside0.mk (show g < (w9.alloc (.cells us 22)).heap.size from Nat.lt_trans HLT9.out (lt_alloc w9 _))
  have HLG10 := Aside0.mk (lt_alloc w9 (.cells us 22))
  clear hus hLs hU hLl hbl HRM9 HB9 HLT9 HOa9 HOb9 HOc9 HOd9 hLa hLb hLd hrl
  generalize w9.alloc (.cells us 22) = w10 at HU HRM10 HB10 HBL HLT10 HLG10 ⊢
  generalize w9.heap.size = gl at HBL HGL HLG10 ⊢
  have hinfo22 : (Tryd.prog.info? 22).map (fun i => (i.zero, i.size, i.bytes)) = some (some (.slice none 0 0), 1, 24) := by kernel_rfl
  have HI22 := Aside0.mk hinfo22
  clear hinfo22
  go_wp2_with (fail)
  go_loopw [22, 23] (fun v22 v23 wr => ∃ i : Nat, i ≤ 4 ∧ v23 = .int .i64 i ∧ Aside0 (Kd.R (Kd.slice 34 k34) 22 wr w10.heap.size (fun _ => True) v22 ((List.range i).map Ls)) ∧ Aside0 (Below w10.heap.size w10 wr)) (fun v22 v23 _ => 4 - (intOf v23).toNat)
  case atStart => exact ⟨0, by omega, rfl, ⟨Kd.R_nil _ _ _ _ _⟩, ⟨Below.refl _ _⟩⟩
  case round =>
    obtain ⟨i, hi, rfl, HW22, HBW⟩ := hrel
    by_cases hlt : i < 4
    · obtain ⟨A, c, hu, hle, hown⟩ := HU.out i hlt
      obtain ⟨A', c', hs', _, hC, _⟩ := hown
      injection hs' with e1 e2 e3
      subst e1
      subst e3
      have hcell : wr.cell? ⟨gl, i, none⟩ = some (.slice A (Ls i).length c) := (blk_cell (blk_below HBL.out HBW.out) i).trans hu
      have HC10 := Aside0.mk hC
      have HLi := Aside0.mk (HLL.out i)
      have HXS := Aside0.mk (show (List.range (i + 1)).map Ls = (List.range i).map Ls ++ [Ls i] by rw [List.range_succ, List.map_append]; rfl)
      have HXL := Aside0.mk (show ((List.range i).map Ls).length = i by simp)
      clear hu hC hle e2
      generalize (List.range i).map Ls = Xs at HXS HXL HW22
      generalize Ls i = Li at hcell HC10 HLi HXS
      go_wp2_with (first
        | ((with_reducible refine gate_dst (N := 84) rfl ?_); refine Kd.R_lit k34 (w0 := wr) wr.heap.size 34 ?hg (N := 84) ?hd (xs := ([] : List S34)) (inner := []) (ok := fun _ => True) (okp := fun _ => True) ?hr ?hp (fun _ hk => hk) trivial (Below.refl _ _) (Nat.le_refl _) (by simp) ?_; (case hd => rfl); (case hg => rfl); (case hr => first | (go_simp; done) | (go_simp; rfl)); (case hp => exact (Reps.none _ _)); intro v84 w20 ho20 hb20 hg_ hnew_; clear hg_ hnew_; have HO20 := Aside0.mk ho20; have HB20 := Aside0.mk hb20; have hcell2 : w20.cell? ⟨gl, i, none⟩ = some (.slice A Li.length c) := (hb20.cell (World.block_lt_of_cell? wr _ hcell)).trans hcell; clear ho20 hb20)
        | ((with_reducible refine gate_builtin (b := .append) (xs := #[.tmp 84, .tmp 88]) rfl ?_); at_builtin; refine Kd.R_append_rows k34 (w0 := wr) wr.heap.size rfl (.tmp 84) (.tmp 88) 22 34 (.agg #[(.int .u32 0), (.int .u32 0), (.string ⟨#[]⟩), (.bool false), (.int .u32 0)]) 32 rfl Tryd.underlying22 info34 rfl (by decide) (by omega) v84 ([] : List S34) Li _ _ _ (fun _ => True) (fun _ => False) rfl rfl ?aO ?aR (fun _ _ h => h) (fun _ h => h.elim) (fun _ _ => trivial) ?aB ?aS ?aL ?_; (case aR => exact (Kd.C_below HC10.out (below_step HBW.out HB20.out))); (case aB => exact HB20.out); (case aO => exact HO20.out); (case aS => exact HB20.out.size); (case aL => have := HLi.out; simp; omega); intro v89 w21 ho21 hb21 hg_ hat_; clear hg_ hat_; rw [List.nil_append] at ho21; obtain ⟨A89, c89, rfl⟩ := Kd.R_slice ho21; have HO21 := Aside0.mk ho21; have HB21 := Aside0.mk hb21; clear ho21 hb21)
        | ((with_reducible refine gate_builtin (b := .append) (xs := #[.tmp 83, .tmp 90]) rfl ?_); at_builtin; refine Kd.R_append (Kd.slice 34 k34) (w0 := w10) w10.heap.size rfl (.tmp 83) (.tmp 90) 52 22 (.slice none 0 0) 24 rfl Tryd.underlying52 HI22.out rfl (by decide) (by omega) _ Xs Li [.slice A89 Li.length c89] (fun _ => True) (fun k => wr.heap.size ≤ k) rfl rfl ?bP ?bK (fun _ _ => trivial) ?bO ?bB ?bS ?bL ?_; (case bP => exact ⟨_, rfl, Kd.R_lower (Kd.R_mono (Kd.R_bound HO21.out) (fun k hk => hk.2.1)) HBW.out.size⟩); (case bK => exact fun k hk => ⟨trivial, fun he => absurd (Kd.R_lt HW22.out k he.symm) (Nat.not_lt.mpr hk)⟩); (case bO => exact Kd.R_below HW22.out HB21.out); (case bB => exact below_step HBW.out HB21.out); (case bS => exact (below_step HBW.out HB21.out).size); (case bL => have := HXL.out; omega); intro v91 w23 ho23 hb23 hg_ hat_; clear hg_ hat_; rw [← HXS.out] at ho23; have HO23 := Aside0.mk ho23; have HB23 := Aside0.mk hb23; clear ho23 hb23))
      exact ⟨⟨i + 1, by omega, by go_num, HO23, HB23⟩, by simp [intOf]; omega⟩
    · obtain rfl : i = 4 := by omega
      obtain ⟨gw, capw, hv, hbw, hwas⟩ := was_of HW22.out (by simp) HLT10.out
      rw [show ((List.range 4).map Ls).length = 4 by simp] at hv
      subst hv
      have HST := Aside0.mk (show St w wr g gl gw Ls from ⟨below_step HB10.out HBW.out, fun j hj => by
        obtain ⟨A, c, hu, _, hown⟩ := HU.out j hj
        exact ⟨_, (blk_cell (blk_below HBL.out HBW.out) j).trans hu, hown.below HBW.out⟩, fun j hj => by
        obtain ⟨u, h1, h2⟩ := hwas j (by simpa using hj)
        refine ⟨u, h1, ?_⟩
        rw [List.getElem_map, List.getElem_range] at h2
        exact h2⟩)
      have HRM := Aside0.mk (HRM10.out.below HBW.out)
      have HGW := Aside0.mk (show gw ≠ g by have := HLT10.out; omega)
      have HGN := HGL.out
      clear hwas HW22 HBW HU HBL HRM10 HB10 hbw HI22 HLT10 HLG10
      have hcut := cut_all (P := Tryd.prog) Tryd.underlying22 hi0 (some ⟨g, 0, none⟩) l.length (l.length + 4) ((l.length : Int) + 4) (by omega) (by omega)
      rw [show ((l.length : Int) + 4).toNat = l.length + 4 by omega] at hcut
      go_wp2_with (fail)
      clear hcut
      go_loopw [25] (fun v25 wr => ∃ j : Nat, l.length ≤ j ∧ j ≤ l.length + 4 ∧ v25 = .int .i64 j ∧ Aside0 (St w wr g gl gw Ls) ∧ Aside0 (Room wr g (l ++ List.replicate 4 zI))) (fun v25 _ => l.length + 4 - (intOf v25).toNat)
      case atStart => exact ⟨l.length, by omega, by omega, rfl, HST, HRM⟩
      case round =>
        obtain ⟨j, hj1, hj2, rfl, HST3, HRM3⟩ := hrel
        by_cases hjl : j < l.length + 4
        · have hlX : (l ++ List.replicate 4 zI).length = l.length + 4 := by simp
          have hC := HRM3.out.reads (l ++ List.replicate 4 zI).length (Nat.le_refl _) hXl
          rw [List.take_length] at hC
          obtain ⟨ad, e, x0, x1, x2, x3, x4⟩ := at_T34 hC (j : Int) (by omega) (by omega)
          cases e
          have ea : (⟨g, 0, none⟩ : Addr).add (j * 5) = ⟨g, j * 5, none⟩ := by
            simp only [Addr.add]
            split
            · rename_i h; rw [h]
            · simp
          simp only [Int.toNat_natCast, ea] at x0 x1 x2 x3 x4
          have hx : rd_T34 (l ++ List.replicate 4 zI) (j : Int) = zI := by
            rw [rd34_get _ _ (by omega), List.getElem_append_right hj1, List.getElem_replicate]
          rw [hx] at x0 x1 x2 x3 x4
          clear hx ea hC
          have y0 : wr.cell? ⟨g, j * 5, none⟩ = some (.int .u32 0) := x0
          have y1 : wr.cell? ⟨g, j * 5 + 1, none⟩ = some (.int .u32 0) := x1
          have y2 : wr.cell? ⟨g, j * 5 + 2, none⟩ = some (.string ⟨#[]⟩) := x2
          have y3 : wr.cell? ⟨g, j * 5 + 3, none⟩ = some (.bool false) := x3
          have y4 : wr.cell? ⟨g, j * 5 + 4, none⟩ = some (.int .u32 0) := x4
          clear x0 x1 x2 x3 x4
          go_wp2_with (fail)
          exact ⟨⟨j + 1, by omega, by omega, by go_num, HST3, HRM3⟩, by simp [intOf]; omega⟩
        · obtain rfl : j = l.length + 4 := by omega
          have hSame := same_f l (by omega) 200 (by omega)
          have HS0 := Aside0.mk hSame
          clear hSame
          go_wp2_with (go_at_call 15; refine (r10_Same.calls 200 (some ⟨g, 0, none⟩) (l.length + 4) l A0 c0 l true wr (HRM3.out.old hXl) (by omega) (Kd.C_below HR0.out HST3.out.below) HC0.out HS0.out).mono ?_; rintro e w5r ⟨rfl, hb5r⟩; have HST5 := Aside0.mk (HST3.out.step hb5r.below); have HRM5 := Aside0.mk (HRM3.out.below hb5r.below); clear hb5r)
          clear HST HRM HST3 HRM3 HS0
          go_loopw [26] (fun v26 wr => ∃ (j : Nat) (X : List S34), j ≤ l.length ∧ v26 = .int .i64 j ∧ X.length = l.length + 4 ∧ Aside0 (St w wr g gl gw Ls) ∧ Aside0 (Room wr g X)) (fun v26 _ => l.length - (intOf v26).toNat)
          case atStart => exact ⟨0, _, Nat.zero_le _, rfl, by simp, HST5, HRM5⟩
          case round =>
            obtain ⟨j, X, hj, rfl, hX, HST6, HRM6⟩ := hrel
            by_cases hjl : j < l.length
            · have hi34 : Aside0 ((Tryd.prog.info? 34).map (·.size) = some 5) := ⟨by kernel_rfl⟩
              have hfit : j * 5 + 5 ≤ (flat X).toArray.size := by rw [List.size_toArray, flat_length]; omega
              go_wp2_with (refine wpList_store_at rfl 34 (.tmp 123) (.tmp 122) rfl g (j * 5) #[.int .u32 77, .int .u32 0, .string ⟨#[103, 111, 110, 101]⟩, .bool false, .int .u32 0] (flat X).toArray 34 rfl rfl HRM6.out hfit hi34.out ?hone ?_; (case hone => exact fun v hv => flat_one [⟨77, 0, ⟨#[103, 111, 110, 101]⟩, false, 0⟩] v (by simpa [flat, c5] using hv)))
              have hXn : Room (wr.setRow g (flat (X.set j ⟨77, 0, ⟨#[103, 111, 110, 101]⟩, false, 0⟩)).toArray) g (X.set j ⟨77, 0, ⟨#[103, 111, 110, 101]⟩, false, 0⟩) := setRow_heap _ _ _ _ _ _ HRM6.out
              have hSn := HST6.out.set HG.out HGN.symm HGW.out (flat (X.set j ⟨77, 0, ⟨#[103, 111, 110, 101]⟩, false, 0⟩)).toArray
              rw [flat_set X _ j (by omega)] at hXn hSn
              simp only [c5, List.append_assoc, List.cons_append, List.nil_append] at hXn hSn
              have HXn := Aside0.mk hXn
              have HSn := Aside0.mk hSn
              exact ⟨⟨j + 1, _, by omega, by go_num, by rw [List.length_set]; exact hX, HSn, HXn⟩, by simp [intOf]; omega⟩
            · obtain rfl : j = l.length := by omega
              go_wp2_with (fail)
              go_loopw [27] (fun v27 wr => ∃ j : Nat, j ≤ 4 ∧ v27 = .int .i64 j ∧ Aside0 (St w wr g gl gw Ls)) (fun v27 _ => 4 - (intOf v27).toNat)
              case atStart => exact ⟨0, Nat.zero_le _, rfl, HST6⟩
              case round =>
                obtain ⟨j, hj, rfl, HST7⟩ := hrel
                by_cases hj4 : j < 4
                · obtain ⟨u, hu, A, c, rfl, hle, hC, _⟩ := HST7.out.lst j hj4
                  obtain ⟨u', hu', A', c', rfl, hle', hC', _⟩ := HST7.out.was j hj4
                  have HCa := Aside0.mk hC
                  have HCb := Aside0.mk hC'
                  have HSj := Aside0.mk (same_f (Ls j) (by have := HLL.out j; omega) 200 (by have := HLL.out j; omega))
                  clear hC hC'
                  go_wp2_with (fail)
                  go_quiet ((go_at_call 15; exact Calls.quiet_of ((r10_Same.calls 200 A c (Ls j) A' c' (Ls j) true _ (Kd.C_drewN HCa.out _) hle (Kd.C_drewN HCb.out _) hle' HSj.out).mono fun e w' h => ⟨h.1, h.2.out⟩)))
                  go_wp2_with (fail)
                  exact ⟨⟨j + 1, by omega, by go_num, ⟨HST7.out.step (pw_below_drewN (Below.refl _ _) _)⟩⟩, by simp [intOf]; omega⟩
                · obtain rfl : j = 4 := by omega
                  go_wp2_with (go_at_call 11; refine (hAl.out _).mono ?_; rintro e w9r ⟨rfl, hb9⟩; have HB9 := Aside0.mk (below_step HST7.out.below hb9); clear hb9)
                  go_ret
                  exact ⟨rfl, HB9.out⟩
def w10_TreeKeeps.f (k : Nat) (l : List S34) (a1 a2 : ByteArray) (id size : Int) : Option Bool := if wfL l = true ∧ (0 ≤ id ∧ id ≤ 4294967295) ∧ (0 ≤ size ∧ size ≤ 4294967295) then some true else none
theorem w10_TreeKeeps.calls (k : Nat) (A0 : Option Addr) (c0 : Nat) (l0 : List S34) (a1 a2 : ByteArray) (a3 a4 : Int) (r : Bool) (w : World) (hr0 : Kd.C k34 w A0 l0.length l0) (hc0 : l0.length ≤ c0) (h : w10_TreeKeeps.f k l0 a1 a2 a3 a4 = some r) :
    Calls Tryd.prog 9 #[.slice A0 l0.length c0, .string a1, .string a2, .int .u32 a3, .int .u32 a4] w fun e w' => e = .returned (.bool r) ∧ Below w.heap.size w w' := by
  unfold w10_TreeKeeps.f at h
  by_cases hd : wfL l0 = true ∧ (0 ≤ a3 ∧ a3 ≤ 4294967295) ∧ (0 ≤ a4 ∧ a4 ≤ 4294967295)
  · rw [if_pos hd] at h
    obtain rfl : true = r := Option.some.inj h
    exact keeps_c A0 c0 l0 a1 a2 a3 a4 w hr0 hc0 hd.1 hd.2.1.1 hd.2.1.2 hd.2.2.1 hd.2.2.2
  · rw [if_neg hd] at h
    cases h
end Go.Proofs.YthbdgahmlggpmaaDoor.Q
