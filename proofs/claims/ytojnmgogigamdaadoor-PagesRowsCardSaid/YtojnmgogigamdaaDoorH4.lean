/- The contract of lamellaref07.Put, for every list and every text that lies in the object. -/
import Derived.Test.YtojnmgogigamdaaDoorQ8
import Derived.Test.YtojnmgogigamdaaDoorQ11
import Derived.Deep.RegionLaw
namespace Go.Proofs.YtojnmgogigamdaaDoor.Q
open Go.RowKit Go.Proofs.YtojnmgogigamdaaDoorW.PrintWords Go.Proofs.YtojnmgogigamdaaDoorW.PrintLast Go.Proofs.YtojnmgogigamdaaDoorW.PrintMore
set_option linter.unusedVariables false
set_option linter.unusedSimpArgs false
def r7_Put.f (k : Nat) (l0 : List S45) (a1 : Int) (a2 : ByteArray) : Option (List S45) :=
  (r7_Bytes.f k l0 0 1024).bind fun s => if 0 ≤ a1 ∧ a1 + (a2.size : Int) ≤ 1024 ∧ s.size = 1024 then r7_Of.f k ((s.extract 0 a1.toNat ++ a2) ++ s.extract (a1.toNat + a2.size) s.size) else none
theorem r7_Put.mono (l0 : List S45) (a1 : Int) (a2 : ByteArray) (k : Nat) : LeO (r7_Put.f k l0 a1 a2) (r7_Put.f (k + 1) l0 a1 a2) :=
  LeO.bind (r7_Bytes.mono _ _ _ _) (fun _ => LeO.ite (r7_Of.mono _ _) (LeO.refl _))
set_option maxHeartbeats 4000000 in
set_option maxRecDepth 100000 in
theorem r7_Put.calls (k : Nat) (A0 : Option Addr) (c0 : Nat) (l0 : List S45) (a1 : Int) (a2 : ByteArray) (r : List S45) (w : World) (hr0 : Kd.C k45 w A0 l0.length l0) (hc0 : l0.length ≤ c0) (h : r7_Put.f k l0 a1 a2 = some r) :
    Calls Tryd.prog 21 #[.slice A0 l0.length c0, .int .i64 a1, .string a2] w fun e w' => ∃ v0_ : Value, e = .returned v0_ ∧ Kd.R k45 45 w' w.heap.size (fun _ => True) v0_ r ∧ Below w.heap.size w w' := by
  have HR0 := Aside0.mk hr0
  have HC0 := Aside0.mk hc0
  clear hr0 hc0
  unfold r7_Put.f at h
  obtain ⟨s, hs, h⟩ := Option.bind_eq_some_iff.1 h
  have HA := Aside0.mk hs
  clear hs
  by_cases hc : 0 ≤ a1 ∧ a1 + (a2.size : Int) ≤ 1024 ∧ s.size = 1024
  · rw [if_pos hc] at h
    obtain ⟨h0, h1, h2⟩ := hc
    obtain ⟨p, rfl⟩ := Int.eq_ofNat_of_zero_le h0
    simp only [Int.toNat_natCast] at h
    have hp : p ≤ 1024 := by omega
    obtain ⟨q, hq⟩ : ∃ q : Nat, q = p + a2.size := ⟨_, rfl⟩
    rw [← hq] at h
    have hq1 : q ≤ 1024 := by omega
    have HO := Aside0.mk h
    have hsum : IntKind.i64.wrap ((p : Int) + (a2.size : Int)) = (q : Int) := by
      have := IntWalk.i64_in ((p : Int) + (a2.size : Int)) (by omega)
      rw [this]; omega
    have hsum' : (p : Int) + (a2.size : Int) = (q : Int) := by omega
    have ha2 : a2.size ≤ 1024 := by omega
    have hwq : IntKind.i64.wrap (q : Int) = (q : Int) := IntWalk.i64_in (q : Int) (by omega)
    obtain ⟨x1, hx1⟩ : ∃ x, x = s.extract 0 p := ⟨_, rfl⟩
    obtain ⟨x2, hx2⟩ : ∃ x, x = s.extract q s.size := ⟨_, rfl⟩
    rw [← hx1, ← hx2] at HO
    have z1 : x1.size ≤ 1024 := by rw [hx1, ByteArray.size_extract]; omega
    have z2 : x2.size ≤ 1024 := by rw [hx2, ByteArray.size_extract]; omega
    have sl1 : ∀ w, (Instr.sliceAt 9 (.string s) none (some (.int .i64 (p : Int))) none).run Tryd.prog w = .ok (.string x1) w := fun w => by
      rw [run_sliceAt_string _ _ _ _ _ _ Tryd.underlying9, run_slice_string_h w 9 s Tryd.underlying9 .i64 (p : Int) (by omega) (by omega), hx1]; rfl
    have sl2 : ∀ w, (Instr.sliceAt 9 (.string s) (some (.int .i64 (q : Int))) none none).run Tryd.prog w = .ok (.string x2) w := fun w => by
      rw [run_sliceAt_string _ _ _ _ _ _ Tryd.underlying9, run_slice_string_l w 9 s Tryd.underlying9 .i64 (q : Int) (by omega) (by omega), hx2]; rfl
    obtain ⟨x3, hx3⟩ : ∃ x, x = x1 ++ a2 := ⟨_, rfl⟩
    rw [← hx3] at HO
    have z3 : x3.size ≤ 2048 := by rw [hx3, ByteArray.size_append]; omega
    obtain ⟨x4, hx4⟩ : ∃ x, x = x3 ++ x2 := ⟨_, rfl⟩
    rw [← hx4] at HO
    have ad1 : ∀ w, (Op.stringOp .add x1 a2).run Tryd.prog w = .ok (.string x3) w := fun w => by rw [run_string_add_sum w x1 a2 (by omega), hx3]
    have ad2 : ∀ w, (Op.stringOp .add x3 x2).run Tryd.prog w = .ok (.string x4) w := fun w => by rw [run_string_add_sum w x3 x2 (by omega), hx4]
    clear hx1 hx2 hx3 hx4 z1 z2 z3 h hq h0 h1 ha2 hp hq1
    have H2 := Aside0.mk h2
    clear h2
    go_enter Tryd.func21, Tryd.ntmps21
    go_wp2_with (go_at_call 17; refine (r7_Bytes.calls k _ _ l0 0 1024 s _ HR0.out HC0.out HA.out).mono ?_; rintro e w1 ⟨rfl, hb1⟩)
    go_region_with (go_at_call 35; refine (r7_Of.calls k x4 r _ HO.out).mono ?_; rintro e w2 ⟨v, rfl, ho, hb2⟩)
    all_goals
      go_wp2
      go_ret
      exact ⟨_, rfl, Kd.R_lower ho (below_size (below_drew hb1)), below_step (below_drew hb1) hb2⟩
  · rw [if_neg hc] at h
    cases h
end Go.Proofs.YtojnmgogigamdaaDoor.Q
