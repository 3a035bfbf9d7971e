/- PagesRight (lamella/lamellalaw07.PagesRight): whether every list is an object, its length, and all its bytes, are the document's: for every list, place and length the law answers true. -/
import Derived.Test.YtojnmgogigamdaaDoorPD
import Derived.Test.YtojnmgogigamdaaDoorQ9
namespace Go.Proofs.YtojnmgogigamdaaDoor.Q.Pure
open Go.RowKit Go.Proofs.YtojnmgogigamdaaDoorW.PrintWords Go.Proofs.YtojnmgogigamdaaDoor.Q
set_option linter.unusedVariables false
set_option linter.unusedSimpArgs false
theorem PagesRight (l0 : List S45) (a1 a2 : Int) (hl : l0.length ≤ maxLen ∧ ∀ x ∈ l0, ((Lit.int .i64 x.f0).wf = true ∧ x.f1.size ≤ maxLen)) (_ : (Lit.int .i64 a1).wf = true) (_ : (Lit.int .i64 a2).wf = true) :
    ∃ k, w7_PagesRight.f k l0 a1 a2 = some true := by
  have hA : ∀ {k : Nat}, 40 ≤ k → w7_alive.f k = some true := alive_k
  by_cases hlen : (l0.length : Int) > 200
  · refine ⟨l0.length + 2003, ?_⟩
    unfold w7_PagesRight.f
    rw [hA (by omega)]
    simp only [Option.bind_some, if_true]
    rw [if_pos hlen, right_f l0 hl.1 (by omega)]
    simp only [Option.bind_some, if_true]
    cases hok : okF (-1) l0 with
    | false => rfl
    | true =>
      have := ((ok_obj l0).1 hok).length
      omega
  refine ⟨2003, ?_⟩
  have hlen' : l0.length ≤ 200 := by omega
  unfold w7_PagesRight.f
  rw [hA (by omega)]
  simp only [Option.bind_some, if_true]
  rw [if_neg hlen, refright_k hlen' (by omega), right_k hlen' (by omega)]
  cases hok : okF (-1) l0 with
  | false =>
    rw [length_bad hlen' (by omega) hok, bytes_bad hlen' (by omega) hok]
    simp only [Option.bind_some, if_true]
    show w7_PagesRight.j0 2003 l0 a1 a2 false 0 1 ⟨#[]⟩ 1 false = some true
    simp only [w7_PagesRight.j0, Bool.false_eq_true, if_false, if_true]
    rw [if_pos (show (⟨#[]⟩ : ByteArray).toList = [] by rw [ByteArray.toList_eq])]
    rfl
  | true =>
    have hO := (ok_obj l0).1 hok
    rw [length_ok (by omega) hO]
    cases hin : inB a1 a2 with
    | false =>
      rw [bytes_out (by omega) hO hin]
      simp only [Option.bind_some, if_true]
      show w7_PagesRight.j0 2003 l0 a1 a2 true (lenB l0 : Int) 0 ⟨#[]⟩ 1 false = some true
      simp only [w7_PagesRight.j0, Bool.false_eq_true, if_false, if_true]
      rw [reflength_k hO (by omega)]
      simp only [Option.bind_some, if_true, w7_PagesRight.j1, show ((0 : Int) != 0) = false from rfl, Bool.false_eq_true, if_false]
      rw [refin_f, hin]
      simp only [Option.bind_some, Bool.false_eq_true, if_false]
      rw [if_pos (show (⟨#[]⟩ : ByteArray).toList = [] by rw [ByteArray.toList_eq])]
      rfl
    | true =>
      rw [bytes_ok (by omega) hO hin]
      simp only [Option.bind_some, if_true]
      show w7_PagesRight.j0 2003 l0 a1 a2 true (lenB l0 : Int) 0 _ 0 false = some true
      simp only [w7_PagesRight.j0, Bool.false_eq_true, if_false, if_true]
      rw [reflength_k hO (by omega)]
      simp only [Option.bind_some, if_true, w7_PagesRight.j1, show ((0 : Int) != 0) = false from rfl, Bool.false_eq_true, if_false]
      rw [refin_f, hin]
      simp only [Option.bind_some, if_true]
      rw [refbytes_k hO hin (by omega)]
      simp only [Option.bind_some, if_true]
      rfl
end Go.Proofs.YtojnmgogigamdaaDoor.Q.Pure
