/- PagesCut (lamella/lamellalaw07.PagesCut): an object that was cut is no longer than that, and cut at its length or behind it it is the same: for every list and every size the law answers true. -/
import Derived.Test.YtojnmgogigamdaaDoorPC
import Derived.Test.YtojnmgogigamdaaDoorQ16
namespace Go.Proofs.YtojnmgogigamdaaDoor.Q.Pure
open Go.RowKit Go.Proofs.YtojnmgogigamdaaDoorW.PrintWords Go.Proofs.YtojnmgogigamdaaDoor.Q
theorem ends_cut {f : List Int} (hf : Flat f) {n : Nat} (he : Ends f n) (s : Nat) : ∃ m, Ends (cutF f s) m ∧ m ≤ s ∧ m ≤ n := by
  have key : ∀ d : Nat, ∃ m, m ≤ d ∧ (∀ x : Nat, m ≤ x → x < d → (cutF f s).getD x 0 = 0) ∧ (0 < m → (cutF f s).getD (m - 1) 0 ≠ 0) := by
    intro d
    induction d with
    | zero => exact ⟨0, by omega, fun x _ h => by omega, fun h => by omega⟩
    | succ d ih =>
      by_cases hz : (cutF f s).getD d 0 = 0
      · obtain ⟨m, h1, h2, h3⟩ := ih
        refine ⟨m, by omega, fun x hx hx2 => ?_, h3⟩
        rcases Nat.lt_or_ge x d with h | h
        · exact h2 x hx h
        · obtain rfl : x = d := by omega
          exact hz
      · exact ⟨d + 1, by omega, fun x _ h => by omega, fun _ => by simpa using hz⟩
  obtain ⟨m, h1, h2, h3⟩ := key 1024
  refine ⟨m, ⟨h1, h2, h3⟩, ?_, ?_⟩
  · rcases Nat.lt_or_ge s m with h | h
    · have := h3 (by omega)
      rw [cutF_get hf.1, if_neg (by omega)] at this
      exact absurd rfl this
    · exact h
  · rcases Nat.lt_or_ge n m with h | h
    · have := h3 (by omega)
      rw [cutF_get hf.1] at this
      split at this
      · exact absurd (he.2.1 (m - 1) (by omega) (by omega)) this
      · exact absurd rfl this
    · exact h
theorem cut_same {f : List Int} (hf : Flat f) {n s : Nat} (he : Ends f n) (h : n ≤ s) : cutF f s = f := by
  apply ext_getD
  · rw [(flat_cut hf s).1, hf.1]
  · intro x hx
    rw [(flat_cut hf s).1] at hx
    rw [cutF_get hf.1]
    split
    · rfl
    · exact (he.2.1 x (by omega) hx).symm
theorem PagesCut (l0 : List S45) (a1 : Int) (hl : l0.length ≤ maxLen ∧ ∀ x ∈ l0, ((Lit.int .i64 x.f0).wf = true ∧ x.f1.size ≤ maxLen)) (h1 : (Lit.int .i64 a1).wf = true) : ∃ k, w7_PagesCut.f k l0 a1 = some true := by
  refine ⟨1003, ?_⟩
  unfold w7_PagesCut.f
  rw [alive_k (by omega)]
  simp only [Option.bind_some, if_true]
  by_cases hlen : (l0.length : Int) > 200
  · rw [if_pos hlen]
  rw [if_neg hlen]
  have hlen' : l0.length ≤ 200 := by omega
  cases hok : okF (-1) l0 with
  | false =>
    rw [length_bad hlen' (by omega) hok]
    simp only [Option.bind_some]
    rw [if_neg (by omega)]
    simp only [w7_PagesCut.j0, if_true]
    rw [alive_k (by omega)]
    rfl
  | true =>
    have hO := (ok_obj l0).1 hok
    rw [length_ok (by omega) hO]
    simp only [Option.bind_some, if_true, w7_PagesCut.j0]
    by_cases hneg : a1 < 0
    · rw [if_pos (by simpa using hneg), alive_k (by omega)]
      rfl
    rw [if_neg (by simpa using hneg), cut_ok (by omega) hO (by omega)]
    have hf := flat_F hO
    have hfc := flat_cut hf a1.toNat
    have hOc := fold_obj hfc
    have he := ends_F hO
    obtain ⟨m, hm, hms, hmn⟩ := ends_cut hf he a1.toNat
    have hlc : lenB (foldL (cutF (F l0) a1.toNat)) = m := by
      have h2 := ends_F hOc
      rw [F_fold hfc] at h2
      exact h2.unique hm
    simp only [Option.bind_some]
    rw [length_ok (by omega) hOc, hlc]
    simp only [Option.bind_some, if_true]
    rw [if_neg (by omega), decide_eq_false (by omega)]
    simp only [w7_PagesCut.j1, Bool.false_eq_true, if_false]
    rw [cut_ok (by omega) hOc (by omega), F_fold hfc, alive_k (by omega)]
    simp only [Option.bind_some, if_true]
    have e : cutF (cutF (F l0) a1.toNat) ((lenB l0 : Int)).toNat = cutF (F l0) a1.toNat := cut_same hfc hm (by omega)
    rw [e, same_k (by have := hOc.length; omega) rfl (by omega)]
    simp only [Option.bind_some, if_true]
    by_cases hlt : a1 < (lenB l0 : Int)
    · rw [if_pos hlt]
    · rw [if_neg hlt]
      have e2 : foldL (cutF (F l0) a1.toNat) = l0 := by rw [cut_same hf he (by omega), fold_F hO]
      rw [e2, same_k hlen' rfl (by omega)]
      rfl
end Go.Proofs.YtojnmgogigamdaaDoor.Q.Pure
