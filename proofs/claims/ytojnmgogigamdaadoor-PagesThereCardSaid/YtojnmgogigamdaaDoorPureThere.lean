/- PagesThere (lamella/lamellalaw07.PagesThere): what was put is there, and all else is as it was: for every list, place, text and number the law answers true. -/
import Derived.Test.YtojnmgogigamdaaDoorPC
import Derived.Test.YtojnmgogigamdaaDoorQ15
namespace Go.Proofs.YtojnmgogigamdaaDoor.Q.Pure
open Go.RowKit Go.Proofs.YtojnmgogigamdaaDoorW.PrintWords Go.Proofs.YtojnmgogigamdaaDoor.Q
theorem take_one (f : List Int) (x : Nat) (h : x < f.length) : (f.drop x).take 1 = [f.getD x 0] := by
  rw [List.drop_eq_getElem_cons h, List.take_succ_cons, List.take_zero, List.getD_eq_getElem?_getD, List.getElem?_eq_getElem h]
  rfl
theorem seat_range (a : Int) : 0 ≤ Int.tmod (IntKind.u64.wrap a) 1024 ∧ Int.tmod (IntKind.u64.wrap a) 1024 < 1024 := by
  have h : 0 ≤ IntKind.u64.wrap a := by
    simp only [IntKind.wrap, IntKind.bits, IntKind.signed]
    simp
    omega
  rw [Int.tmod_eq_emod_of_nonneg h]
  omega
theorem PagesThere (l0 : List S45) (a1 : Int) (a2 : ByteArray) (a3 : Int) (_ : l0.length ≤ maxLen ∧ ∀ x ∈ l0, ((Lit.int .i64 x.f0).wf = true ∧ x.f1.size ≤ maxLen)) (_ : (Lit.int .i64 a1).wf = true) (_ : a2.size ≤ maxLen) (_ : (Lit.int .i64 a3).wf = true) :
    ∃ k, w7_PagesThere.f k l0 a1 a2 a3 = some true := by
  refine ⟨1003, ?_⟩
  unfold w7_PagesThere.f
  rw [alive_k (by omega)]
  simp only [Option.bind_some, if_true]
  by_cases hlen : (l0.length : Int) > 200
  · rw [if_pos hlen]
    simp only [w7_PagesThere.j0, if_true]
    rw [alive_k (by omega)]
    rfl
  rw [if_neg hlen]
  by_cases hd : (a2.size : Int) > 4000
  · rw [decide_eq_true hd]
    simp only [w7_PagesThere.j0, if_true]
    rw [alive_k (by omega)]
    rfl
  rw [decide_eq_false hd]
  simp only [w7_PagesThere.j0, Bool.false_eq_true, if_false]
  have hlen' : l0.length ≤ 200 := by omega
  cases hok : okF (-1) l0 with
  | false =>
    rw [put_bad hlen' (by omega) hok]
    simp only [Option.bind_some]
    rw [if_neg (by omega), alive_k (by omega)]
    rfl
  | true =>
    have hO := (ok_obj l0).1 hok
    cases hin : inB a1 a2.size with
    | false =>
      rw [put_out (by omega) hO hin]
      simp only [Option.bind_some]
      rw [if_neg (by omega), alive_k (by omega)]
      rfl
    | true =>
      obtain ⟨g1, g2, g3, g4⟩ := inB_iff.1 hin
      have hf := flat_F hO
      have hfs := flat_splice hf (off := a1.toNat) (d := a2) (by omega)
      have hOs := fold_obj hfs
      rw [put_ok (by omega) hO hin]
      simp only [Option.bind_some, if_true]
      rw [bytes_ok (by omega) hOs hin, F_fold hfs]
      have e1 : (((splice (F l0) a1.toNat (bytesOf a2)).drop a1.toNat).take ((a2.size : Int)).toNat) = bytesOf a2 := by
        have := splice_mid (F l0) a1.toNat (bytesOf a2) (by rw [bytesOf_length, hf.1]; omega)
        rwa [bytesOf_length] at this
      rw [e1, str_bytes]
      simp only [Option.bind_some, if_true]
      rw [right_k (by have := hOs.length; omega) (by omega), (ok_obj _).2 hOs]
      simp only [Option.bind_some, Bool.not_true, w7_PagesThere.j1, Bool.false_eq_true, if_false]
      obtain ⟨r1, r2⟩ := seat_range a3
      generalize Int.tmod (IntKind.u64.wrap a3) 1024 = x at r1 r2
      rw [wrap_in (by omega) (by omega), wrap_in (i := a1 + (a2.size : Int)) (by omega) (by omega)]
      have fin : ∀ b : Bool, (b = true → True) → (b = false → x < a1 ∨ a1 + (a2.size : Int) ≤ x) → w7_PagesThere.j2 1001 l0 (foldL (splice (F l0) a1.toNat (bytesOf a2))) x b = some true := by
        intro b _ hb
        cases b with
        | true =>
          simp only [w7_PagesThere.j2, if_true]
          rw [alive_k (by omega)]
          rfl
        | false =>
          have hx := hb rfl
          simp only [w7_PagesThere.j2, Bool.false_eq_true, if_false]
          have hi1 : inB x 1 = true := inB_iff.2 ⟨by omega, by omega, by omega, by omega⟩
          rw [bytes_ok (by omega) hO hi1, bytes_ok (by omega) hOs hi1, F_fold hfs, alive_k (by omega)]
          simp only [Option.bind_some, if_true]
          have e2 : ((splice (F l0) a1.toNat (bytesOf a2)).drop x.toNat).take (1 : Int).toNat = ((F l0).drop x.toNat).take (1 : Int).toNat := by
            show ((splice (F l0) a1.toNat (bytesOf a2)).drop x.toNat).take 1 = ((F l0).drop x.toNat).take 1
            rw [take_one _ _ (by rw [hfs.1]; omega), take_one _ _ (by rw [hf.1]; omega), splice_getD _ _ _ (by rw [bytesOf_length, hf.1]; omega), if_neg (by rw [bytesOf_length]; omega)]
          rw [e2]
          simp
      by_cases hx : x ≥ a1
      · rw [if_pos hx]
        exact fin _ (fun _ => trivial) (fun h => by simp at h; omega)
      · rw [if_neg hx]
        exact fin false (fun _ => trivial) (fun _ => by omega)
end Go.Proofs.YtojnmgogigamdaaDoor.Q.Pure
