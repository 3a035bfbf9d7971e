/- PagesPut (lamella/lamellalaw07.PagesPut): every object with bytes put, or cut, is the document's, or is refused: for every list, place, text and size the law answers true. -/
import Derived.Test.YtojnmgogigamdaaDoorPD
import Derived.Test.YtojnmgogigamdaaDoorQ13
namespace Go.Proofs.YtojnmgogigamdaaDoor.Q.Pure
open Go.RowKit Go.Proofs.YtojnmgogigamdaaDoorW.PrintWords Go.Proofs.YtojnmgogigamdaaDoor.Q
set_option linter.unusedVariables false
set_option linter.unusedSimpArgs false
theorem PagesPut (l0 : List S45) (a1 : Int) (a2 : ByteArray) (a3 : Int) (_ : l0.length ≤ maxLen ∧ ∀ x ∈ l0, ((Lit.int .i64 x.f0).wf = true ∧ x.f1.size ≤ maxLen)) (_ : (Lit.int .i64 a1).wf = true) (_ : a2.size ≤ maxLen) (_ : (Lit.int .i64 a3).wf = true) :
    ∃ k, w7_PagesPut.f k l0 a1 a2 a3 = some true := by
  refine ⟨2003, ?_⟩
  have hA : ∀ {k : Nat}, 40 ≤ k → w7_alive.f k = some true := alive_k
  have out : ∀ b : Bool, b = true → w7_PagesPut.j0 2003 l0 a1 a2 a3 b = some true := by
    rintro _ rfl
    simp only [w7_PagesPut.j0, if_true]
    rw [hA (by omega)]
    rfl
  unfold w7_PagesPut.f
  rw [hA (by omega)]
  simp only [Option.bind_some, if_true]
  by_cases hlen : (l0.length : Int) > 200
  · rw [if_pos hlen]; exact out true rfl
  rw [if_neg hlen]
  by_cases hd : (a2.size : Int) > 4000
  · rw [decide_eq_true hd]; exact out true rfl
  rw [decide_eq_false hd]
  have hlen' : l0.length ≤ 200 := by omega
  simp only [w7_PagesPut.j0, Bool.false_eq_true, if_false]
  rw [refright_k hlen' (by omega)]
  have refuse : ∀ b : Bool, b = true → w7_PagesPut.j3 2000 l0 a3 [] 1 b = some true := by
    rintro _ rfl
    simp only [w7_PagesPut.j3, if_true]
    rw [hA (by omega)]
    rfl
  cases hok : okF (-1) l0 with
  | false =>
    rw [put_bad hlen' (by omega) hok, cut_bad hlen' (by omega) hok]
    simp only [Option.bind_some, Bool.false_eq_true, if_false, w7_PagesPut.j1, if_true, List.length_nil, Int.natCast_zero, w7_PagesPut.j2]
    exact refuse true rfl
  | true =>
    have hO := (ok_obj l0).1 hok
    have cut : w7_PagesPut.j2 2001 l0 a3 (((pages_Cut.f 2002 l0 a3).getD ([], 0)).1) (((pages_Cut.f 2002 l0 a3).getD ([], 0)).2) true = some true := by
      simp only [w7_PagesPut.j2, if_true]
      by_cases hneg : a3 < 0
      · rw [cut_neg (by omega) hO hneg, decide_eq_true hneg]
        exact refuse true rfl
      · rw [cut_ok (by omega) hO (by omega), decide_eq_false hneg]
        simp only [w7_PagesPut.j3, Bool.false_eq_true, if_false, Option.getD_some]
        rw [hA (by omega)]
        simp only [Option.bind_some, if_true]
        rw [refcut_k hO (by omega) (by omega)]
        simp only [Option.bind_some]
        rw [same_k (by have := (fold_obj (flat_cut (flat_F hO) a3.toNat)).length; omega) rfl (by omega)]
        rfl
    obtain ⟨c, hc⟩ : ∃ c, pages_Cut.f 2002 l0 a3 = some c := by
      by_cases hneg : a3 < 0
      · exact ⟨_, cut_neg (by omega) hO hneg⟩
      · exact ⟨_, cut_ok (by omega) hO (by omega)⟩
    rw [hc] at cut ⊢
    simp only [Option.getD_some] at cut
    cases hin : inB a1 a2.size with
    | false =>
      rw [put_out (by omega) hO hin, refin_f, hin]
      simp only [Option.bind_some, if_true, Bool.not_false, w7_PagesPut.j1, List.length_nil, Int.natCast_zero]
      exact cut
    | true =>
      obtain ⟨g1, g2, g3, g4⟩ := inB_iff.1 hin
      rw [put_ok (by omega) hO hin, refin_f, hin]
      simp only [Option.bind_some, if_true, Bool.not_true, w7_PagesPut.j1, Bool.false_eq_true, if_false]
      rw [refput_k hO hin (by omega)]
      simp only [Option.bind_some]
      rw [same_k (by have := (fold_obj (flat_splice (flat_F hO) (off := a1.toNat) (d := a2) (by omega))).length; omega) rfl (by omega)]
      simp only [Option.bind_some, if_true]
      exact cut
end Go.Proofs.YtojnmgogigamdaaDoor.Q.Pure
