/- The walk of TreeFinds: every path's names, what is walked to, and the names in it, or the error. -/
import Derived.Test.YthbdgahmlggpmaaDoorR9
import Derived.Test.YthbdgahmlggpmaaDoorQ7
namespace Go.Proofs.YthbdgahmlggpmaaDoor.Q
open Go.RowKit Go.Proofs.YthbdgahmlggpmaaDoorW.PrintWords Go.Proofs.YthbdgahmlggpmaaDoorW.PrintLast Go.Proofs.YthbdgahmlggpmaaDoorW.PrintMore
set_option linter.unusedVariables false
set_option linter.unusedSimpArgs false
attribute [local go_sem high] eqA34
theorem listF_len (l : List S34) (s : ByteArray) : (listF l s).1.length ≤ l.length := by
  unfold listF
  split
  · split
    · rw [sortB_len, List.length_map]
      unfold kidsI
      exact List.length_filter_le _ _
    · exact Nat.zero_le _
  · exact Nat.zero_le _
set_option maxHeartbeats 8000000 in
set_option maxRecDepth 100000 in
theorem finds_c (A0 : Option Addr) (c0 : Nat) (l : List S34) (s : ByteArray) (w : World) (hr0 : Kd.C k34 w A0 l.length l) (hc0 : l.length ≤ c0) (hw : wfL l = true) :
    Calls Tryd.prog 10 #[.slice A0 l.length c0, .string s] w fun e w' => e = .returned (.bool true) ∧ Below w.heap.size w w' := by
  have HR0 := Aside0.mk hr0
  have HC0 := Aside0.mk hc0
  have HW := Aside0.mk hw
  have hAl := Aside0.mk (fun w => w10_alive.calls true w rfl)
  clear hr0 hc0 hw
  rcases great_cases l s ⟨#[]⟩ 200 (by omega) with hg | ⟨hg, hlen, hs1, hs2⟩
  · have HG := Aside0.mk hg
    clear hg
    go_enter Tryd.func10, Tryd.ntmps10
    go_wp2_with (first
      | (go_at_call 12; refine (w10_great.calls 200 A0 c0 l s ⟨#[]⟩ true _ (Kd.C_below HR0.out HB1.out) HC0.out HG.out).mono ?_; rintro e w2 ⟨rfl, hb2⟩; have HB2 := Aside0.mk (below_step HB1.out hb2.below); clear hb2)
      | (go_at_call 11; refine (hAl.out _).mono ?_; rintro e w3 ⟨rfl, hb3⟩; have HB3 := Aside0.mk (below_step HB2.out hb3); clear hb3)
      | (go_at_call 11; refine (hAl.out _).mono ?_; rintro e w1 ⟨rfl, hb1⟩; have HB1 := Aside0.mk hb1; clear hb1))
    go_ret
    exact ⟨rfl, HB3.out⟩
  have HG := Aside0.mk hg
  clear hg
  obtain ⟨hfr1, hfr2, hfr3⟩ := find_rel HW.out s
  have h40 : (findF l s).2 = 0 → l.length ≤ 40 := fun h => by
    obtain ⟨t, _⟩ := hfr3 (by rw [← hfr1]; exact h)
    exact t.le
  have hF := fun (w' : World) (h : Kd.C k34 w' A0 l.length l) => find_c A0 c0 l s w' h HC0.out HW.out (by omega)
  have hLi := fun (w' : World) (h : Kd.C k34 w' A0 l.length l) => list_c A0 c0 l s w' h HC0.out HW.out (by omega) h40
  have hSp := fun (w' : World) => split_c s w' (by omega)
  have hrs := rsplit_f s (by omega) 6000 (by omega)
  have hrf := rfind_f l HW.out hlen s hs1 6000 (by omega)
  have hrl := rlist_f l HW.out hlen s hs1 6000 (by omega)
  have hl1 := splitF_len s
  have hl2 := listF_len l s
  have hse := split_err s
  clear h40
  generalize splitF s = sp at hSp hrs hl1 hse
  obtain ⟨ls, es⟩ := sp
  simp only at hSp hrs hl1 hse
  generalize findF l s = fp at hF hfr1 hfr2 hfr3
  obtain ⟨x, ef⟩ := fp
  generalize findN l s = fn at hrf hfr1 hfr2 hfr3
  obtain ⟨q, g⟩ := fn
  simp only at hF hrf hfr1 hfr2 hfr3
  subst hfr1
  generalize listF l s = lp at hLi hrl hl2
  obtain ⟨ns, el⟩ := lp
  simp only at hLi hrl hl2
  have HF := Aside0.mk hF
  have HLi := Aside0.mk hLi
  have HSp := Aside0.mk hSp
  have HRS := Aside0.mk hrs
  have HRF := Aside0.mk hrf
  have HRL := Aside0.mk hrl
  have HX2 := Aside0.mk hfr2
  have HX3 := Aside0.mk (fun h => (hfr3 h).2)
  have HS1 := Aside0.mk (st_f ls (by omega) 300 (by omega))
  have HS2 := Aside0.mk (st_f ns (by omega) 300 (by omega))
  clear hF hLi hSp hrs hrf hrl hfr2 hfr3 hl1 hl2
  go_enter Tryd.func10, Tryd.ntmps10
  go_upto_region 5 with (first
    | (go_at_call 12; refine (w10_great.calls 200 A0 c0 l s ⟨#[]⟩ false _ (Kd.C_below HR0.out HB1.out) HC0.out HG.out).mono ?_; rintro e w2 ⟨rfl, hb2⟩; have HB2 := Aside0.mk (below_step HB1.out hb2.below); clear hb2)
    | (go_at_call 11; refine (hAl.out _).mono ?_; rintro e w1 ⟨rfl, hb1⟩; have HB1 := Aside0.mk hb1; clear hb1))
  clear HG HB1
  go_upto_region 6 with (go_at_call 27; refine (HSp.out w2).mono ?_; rintro e w3 ⟨⟨A5, c5, rfl, hc5, hC5⟩, hb3⟩; have HL5 := Aside0.mk hc5; have HC5 := Aside0.mk hC5; have HB3 := Aside0.mk (below_step HB2.out hb3); clear hc5 hC5 hb3)
  clear HB2 HSp
  go_upto_region 7 with (go_at_call 28; refine (r10_Split.calls 6000 s ls (es == 0) w3 HRS.out).mono ?_; rintro e w4 ⟨v7, rfl, ho7, hb4⟩; have HC5b := Aside0.mk (Kd.C_below HC5.out hb4); have HB4 := Aside0.mk (below_step HB3.out hb4); have HO7 := Aside0.mk ho7; clear ho7 hb4)
  clear HB3 HC5 HRS
  obtain ⟨A7, c7, rfl⟩ := Kd.R_slice HO7.out
  have HL7 := Aside0.mk (Kd.R_reads' HO7.out).2.1
  have HC7 := Aside0.mk (Kd.R_reads' HO7.out).2.2
  clear HO7
  go_upto_region 8 with (go_at_call 26; refine (HF.out w4 (Kd.C_below HR0.out HB4.out)).mono ?_; rintro e w5 ⟨rfl, hb5⟩; have HC5 := Aside0.mk (Kd.C_below HC5b.out hb5); have HC7b := Aside0.mk (Kd.C_below HC7.out hb5); have HB5 := Aside0.mk (below_step HB4.out hb5); clear hb5)
  clear HB4 HC5b HC7 HF
  have hba := below_alloc (Below.refl w5.heap.size w5) (.cells #[.int .u32 x.f0, .int .u32 x.f1, .string x.f2, .bool x.f3, .int .u32 x.f4] 34)
  have BK6 := Aside0.mk (heap_alloc_new w5 (.cells #[.int .u32 x.f0, .int .u32 x.f1, .string x.f2, .bool x.f3, .int .u32 x.f4] 34))
  have HB6 := Aside0.mk (below_alloc HB5.out (.cells #[.int .u32 x.f0, .int .u32 x.f1, .string x.f2, .bool x.f3, .int .u32 x.f4] 34))
  have HC56 := Aside0.mk (Kd.C_below HC5.out hba)
  have HC76 := Aside0.mk (Kd.C_below HC7b.out hba)
  clear HB5 HC5 HC7b hba
  generalize w5.alloc (.cells #[.int .u32 x.f0, .int .u32 x.f1, .string x.f2, .bool x.f3, .int .u32 x.f4] 34) = w6 at BK6 HB6 HC56 HC76 ⊢
  generalize w5.heap.size = g9 at BK6 ⊢
  go_upto_region 9 with (go_at_call 29; refine (r10_Find.calls 6000 A0 c0 l s q ef w6 (Kd.C_below HR0.out HB6.out) HC0.out HRF.out).mono ?_; rintro e w7 ⟨rfl, hb7⟩; have HC57 := Aside0.mk (Kd.C_below HC56.out hb7); have HC77 := Aside0.mk (Kd.C_below HC76.out hb7); have BK7 := Aside0.mk (blk_below BK6.out hb7); have HB7 := Aside0.mk (below_step HB6.out hb7); clear hb7)
  clear HB6 HC56 HC76 BK6 HRF
  go_upto_region 10 with (go_at_call 30; refine (HLi.out w7 (Kd.C_below HR0.out HB7.out)).mono ?_; rintro e w8 ⟨v13, rfl, ho13, hb8⟩; have HC58 := Aside0.mk (Kd.C_below HC57.out hb8); have HC78 := Aside0.mk (Kd.C_below HC77.out hb8); have BK8 := Aside0.mk (blk_below BK7.out hb8); have HB8 := Aside0.mk (below_step HB7.out hb8); have HO13 := Aside0.mk ho13; clear hb8 ho13)
  clear HB7 HC57 HC77 BK7 HLi
  obtain ⟨A13, c13, rfl⟩ := Kd.R_slice HO13.out
  have HL13 := Aside0.mk (Kd.R_reads' HO13.out).2.1
  have HC13 := Aside0.mk (Kd.R_reads' HO13.out).2.2
  clear HO13
  go_upto_region 11 with (go_at_call 31; refine (r10_List.calls 6000 A0 c0 l s ns el w8 (Kd.C_below HR0.out HB8.out) HC0.out HRL.out).mono ?_; rintro e w9 ⟨v15, rfl, ho15, hb9⟩; have HC59 := Aside0.mk (Kd.C_below HC58.out hb9); have HC79 := Aside0.mk (Kd.C_below HC78.out hb9); have HC139 := Aside0.mk (Kd.C_below HC13.out hb9); have BK9 := Aside0.mk (blk_below BK8.out hb9); have HB9 := Aside0.mk (below_step HB8.out hb9); have HO15 := Aside0.mk ho15; clear hb9 ho15)
  clear HB8 HC58 HC78 HC13 BK8 HRL
  obtain ⟨A15, c15, rfl⟩ := Kd.R_slice HO15.out
  have HL15 := Aside0.mk (Kd.R_reads' HO15.out).2.1
  have HC15 := Aside0.mk (Kd.R_reads' HO15.out).2.2
  clear HO15
  rcases hse with rfl | rfl
  · simp only [beq_self_eq_true] at *
    go_upto_region 13 with (first
      | (go_at_call 11; refine (hAl.out _).mono ?_; rintro e w10 ⟨rfl, hb10⟩; have HC5a := Aside0.mk (Kd.C_below HC59.out hb10); have HC7a := Aside0.mk (Kd.C_below HC79.out hb10); have HC13a := Aside0.mk (Kd.C_below HC139.out hb10); have HC15a := Aside0.mk (Kd.C_below HC15.out hb10); have BKa := Aside0.mk (blk_below BK9.out hb10); have HBa := Aside0.mk (below_step HB9.out hb10); clear hb10)
      | (go_at_call 32; (with_reducible refine (r10_SameTexts.calls 300 A5 c5 ls A7 c7 ls true _ HC5a.out HL5.out HC7a.out HL7.out HS1.out).mono ?_); rintro e w11 ⟨rfl, hd11⟩; have hb11 := hd11.below; have HC13b := Aside0.mk (Kd.C_below HC13a.out hb11); have HC15b := Aside0.mk (Kd.C_below HC15a.out hb11); have BKb := Aside0.mk (blk_below BKa.out hb11); have HBb := Aside0.mk (below_step HBa.out hb11); clear hd11 hb11)
      | (go_at_call 32; (with_reducible refine (r10_SameTexts.calls 300 A13 c13 ns A15 c15 ns true _ HC13b.out HL13.out HC15b.out HL15.out HS2.out).mono ?_); rintro e w12 ⟨rfl, hd12⟩; have hb12 := hd12.below; have BKc := Aside0.mk (blk_below BKb.out hb12); have HBc := Aside0.mk (below_step HBb.out hb12); clear hd12 hb12))
    clear BK9 BKa BKb HB9 HBa HBb HC59 HC79 HC139 HC15 HC5a HC7a HC13a HC15a HC13b HC15b
    by_cases hz : ef = 0
    · subst hz
      obtain ⟨q', hq', rfl, hx⟩ := HX3.out rfl
      obtain ⟨ad, e, x0, x1, x2, x3, x4⟩ := at_T34 (Kd.C_below HR0.out HBc.out) (q' : Int) (by omega) (by omega)
      cases e
      rw [rd34_get l q' hq'] at x0 x1 x2 x3 x4
      subst hx
      generalize l[q'] = y at x0 x1 x2 x3 x4 BKc
      simp only [Int.toNat_natCast] at x0 x1 x2 x3 x4
      have y0 : w12.cell? ⟨g9, 0, none⟩ = some (.int .u32 y.f0) := (blk_cell BKc.out 0).trans rfl
      have y1 : w12.cell? ⟨g9, 1, none⟩ = some (.int .u32 y.f1) := (blk_cell BKc.out 1).trans rfl
      have y2 : w12.cell? ⟨g9, 2, none⟩ = some (.string y.f2) := (blk_cell BKc.out 2).trans rfl
      have y3 : w12.cell? ⟨g9, 3, none⟩ = some (.bool y.f3) := (blk_cell BKc.out 3).trans rfl
      have y4 : w12.cell? ⟨g9, 4, none⟩ = some (.int .u32 y.f4) := (blk_cell BKc.out 4).trans rfl
      go_wp2_with (fail)
      go_quiet (fail)
      go_wp2_with (fail)
      go_ret
      exact ⟨by simp, pw_below_drewN HBc.out _⟩
    · have hx := HX2.out hz
      subst hx
      have y0 : w12.cell? ⟨g9, 0, none⟩ = some (.int .u32 0) := (blk_cell BKc.out 0).trans rfl
      have y1 : w12.cell? ⟨g9, 1, none⟩ = some (.int .u32 0) := (blk_cell BKc.out 1).trans rfl
      have y2 : w12.cell? ⟨g9, 2, none⟩ = some (.string ⟨#[]⟩) := (blk_cell BKc.out 2).trans rfl
      have y3 : w12.cell? ⟨g9, 3, none⟩ = some (.bool false) := (blk_cell BKc.out 3).trans rfl
      have y4 : w12.cell? ⟨g9, 4, none⟩ = some (.int .u32 0) := (blk_cell BKc.out 4).trans rfl
      go_wp2_with (fail)
      go_ret
      exact ⟨rfl, HBc.out⟩
  · rw [show ((9 : Int) == 0) = false from rfl]
    go_upto_region 13 with (first
      | (go_at_call 11; refine (hAl.out _).mono ?_; rintro e w10 ⟨rfl, hb10⟩; have HC5a := Aside0.mk (Kd.C_below HC59.out hb10); have HC7a := Aside0.mk (Kd.C_below HC79.out hb10); have HC13a := Aside0.mk (Kd.C_below HC139.out hb10); have HC15a := Aside0.mk (Kd.C_below HC15.out hb10); have BKa := Aside0.mk (blk_below BK9.out hb10); have HBa := Aside0.mk (below_step HB9.out hb10); clear hb10)
      | (go_at_call 32; (with_reducible refine (r10_SameTexts.calls 300 A5 c5 ls A7 c7 ls true _ HC5a.out HL5.out HC7a.out HL7.out HS1.out).mono ?_); rintro e w11 ⟨rfl, hd11⟩; have hb11 := hd11.below; have HC13b := Aside0.mk (Kd.C_below HC13a.out hb11); have HC15b := Aside0.mk (Kd.C_below HC15a.out hb11); have BKb := Aside0.mk (blk_below BKa.out hb11); have HBb := Aside0.mk (below_step HBa.out hb11); clear hd11 hb11)
      | (go_at_call 32; (with_reducible refine (r10_SameTexts.calls 300 A13 c13 ns A15 c15 ns true _ HC13b.out HL13.out HC15b.out HL15.out HS2.out).mono ?_); rintro e w12 ⟨rfl, hd12⟩; have hb12 := hd12.below; have BKc := Aside0.mk (blk_below BKb.out hb12); have HBc := Aside0.mk (below_step HBb.out hb12); clear hd12 hb12))
    clear BK9 BKa BKb HB9 HBa HBb HC59 HC79 HC139 HC15 HC5a HC7a HC13a HC15a HC13b HC15b
    by_cases hz : ef = 0
    · subst hz
      obtain ⟨q', hq', rfl, hx⟩ := HX3.out rfl
      obtain ⟨ad, e, x0, x1, x2, x3, x4⟩ := at_T34 (Kd.C_below HR0.out HBc.out) (q' : Int) (by omega) (by omega)
      cases e
      rw [rd34_get l q' hq'] at x0 x1 x2 x3 x4
      subst hx
      generalize l[q'] = y at x0 x1 x2 x3 x4 BKc
      simp only [Int.toNat_natCast] at x0 x1 x2 x3 x4
      have y0 : w12.cell? ⟨g9, 0, none⟩ = some (.int .u32 y.f0) := (blk_cell BKc.out 0).trans rfl
      have y1 : w12.cell? ⟨g9, 1, none⟩ = some (.int .u32 y.f1) := (blk_cell BKc.out 1).trans rfl
      have y2 : w12.cell? ⟨g9, 2, none⟩ = some (.string y.f2) := (blk_cell BKc.out 2).trans rfl
      have y3 : w12.cell? ⟨g9, 3, none⟩ = some (.bool y.f3) := (blk_cell BKc.out 3).trans rfl
      have y4 : w12.cell? ⟨g9, 4, none⟩ = some (.int .u32 y.f4) := (blk_cell BKc.out 4).trans rfl
      go_wp2_with (fail)
      go_quiet (fail)
      go_wp2_with (fail)
      go_ret
      exact ⟨by simp, pw_below_drewN HBc.out _⟩
    · have hx := HX2.out hz
      subst hx
      have y0 : w12.cell? ⟨g9, 0, none⟩ = some (.int .u32 0) := (blk_cell BKc.out 0).trans rfl
      have y1 : w12.cell? ⟨g9, 1, none⟩ = some (.int .u32 0) := (blk_cell BKc.out 1).trans rfl
      have y2 : w12.cell? ⟨g9, 2, none⟩ = some (.string ⟨#[]⟩) := (blk_cell BKc.out 2).trans rfl
      have y3 : w12.cell? ⟨g9, 3, none⟩ = some (.bool false) := (blk_cell BKc.out 3).trans rfl
      have y4 : w12.cell? ⟨g9, 4, none⟩ = some (.int .u32 0) := (blk_cell BKc.out 4).trans rfl
      go_wp2_with (fail)
      go_ret
      exact ⟨rfl, HBc.out⟩
def w10_TreeFinds.f (k : Nat) (l : List S34) (a1 : ByteArray) : Option Bool := if wfL l = true then some true else none
theorem w10_TreeFinds.calls (k : Nat) (A0 : Option Addr) (c0 : Nat) (l0 : List S34) (a1 : ByteArray) (r : Bool) (w : World) (hr0 : Kd.C k34 w A0 l0.length l0) (hc0 : l0.length ≤ c0) (h : w10_TreeFinds.f k l0 a1 = some r) :
    Calls Tryd.prog 10 #[.slice A0 l0.length c0, .string a1] w fun e w' => e = .returned (.bool r) ∧ Below w.heap.size w w' := by
  unfold w10_TreeFinds.f at h
  by_cases hd : wfL l0 = true
  · rw [if_pos hd] at h
    obtain rfl : true = r := Option.some.inj h
    exact finds_c A0 c0 l0 a1 w hr0 hc0 hd
  · rw [if_neg hd] at h
    cases h
end Go.Proofs.YthbdgahmlggpmaaDoor.Q
