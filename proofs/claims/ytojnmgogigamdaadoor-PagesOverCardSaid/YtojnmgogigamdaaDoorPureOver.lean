/- PagesOver (lamella/lamellalaw07.PagesOver): of two that are put over one another the later one is there, and what doesn't meet can be put in either order: for every list, two places and two texts the law answers true. -/
import Derived.Test.YtojnmgogigamdaaDoorPC
import Derived.Test.YtojnmgogigamdaaDoorQ17
namespace Go.Proofs.YtojnmgogigamdaaDoor.Q.Pure
open Go.RowKit Go.Proofs.YtojnmgogigamdaaDoorW.PrintWords Go.Proofs.YtojnmgogigamdaaDoor.Q
theorem splice_comm (f : List Int) (p q : Nat) (a b : List Int) (hp : p + a.length ≤ f.length) (hq : q + b.length ≤ f.length) (h : p + a.length ≤ q ∨ q + b.length ≤ p) : splice (splice f q b) p a = splice (splice f p a) q b := by
  have h1 : (splice f q b).length = f.length := splice_length _ _ _ hq
  have h2 : (splice f p a).length = f.length := splice_length _ _ _ hp
  apply ext_getD
  · rw [splice_length (splice f q b) p a (by omega), splice_length (splice f p a) q b (by omega), h1, h2]
  · intro x _
    rw [splice_getD _ _ _ (by omega), splice_getD _ _ _ (by omega), splice_getD _ _ _ (by omega), splice_getD _ _ _ (by omega)]
    by_cases c1 : p ≤ x ∧ x < p + a.length
    · rw [if_pos c1, if_neg (by omega), if_pos c1]
    · rw [if_neg c1, if_neg c1]
theorem obj_nil : Obj [] := ⟨by simp, by simp⟩
theorem PagesOver (l0 : List S45) (a1 a2 : Int) (a3 a4 : ByteArray) (_ : l0.length ≤ maxLen ∧ ∀ x ∈ l0, ((Lit.int .i64 x.f0).wf = true ∧ x.f1.size ≤ maxLen)) (_ : (Lit.int .i64 a1).wf = true) (_ : (Lit.int .i64 a2).wf = true) (_ : a3.size ≤ maxLen) (_ : a4.size ≤ maxLen) :
    ∃ k, w7_PagesOver.f k l0 a1 a2 a3 a4 = some true := by
  refine ⟨1003, ?_⟩
  have hA : ∀ {k : Nat}, 40 ≤ k → w7_alive.f k = some true := alive_k
  have out : ∀ b : Bool, b = true → w7_PagesOver.j0 1003 l0 a1 a2 a3 a4 b = some true := by
    rintro _ rfl
    simp only [w7_PagesOver.j0, if_true]
    rw [hA (by omega)]
    rfl
  unfold w7_PagesOver.f
  rw [hA (by omega)]
  simp only [Option.bind_some, if_true]
  by_cases hlen : (l0.length : Int) > 200
  · rw [if_pos hlen]; exact out true rfl
  rw [if_neg hlen]
  by_cases hd : (a3.size : Int) > 2000
  · rw [if_pos hd]; exact out true rfl
  rw [if_neg hd]
  by_cases hd4 : (a4.size : Int) > 2000
  · rw [decide_eq_true hd4]; exact out true rfl
  rw [decide_eq_false hd4]
  simp only [w7_PagesOver.j0, Bool.false_eq_true, if_false]
  have hlen' : l0.length ≤ 200 := by omega
  have out1 : ∀ (y : List S45) (b : Bool), b = true → w7_PagesOver.j1 1002 l0 a1 a2 a3 a4 y b = some true := by
    rintro y _ rfl
    simp only [w7_PagesOver.j1, if_true]
    rw [hA (by omega)]
    rfl
  have first : pages_Put.f 1002 l0 a1 a3 = some ([], 1) → ((pages_Put.f 1002 l0 a1 a3).bind fun bt223 => ((pages_Put.f 1002 bt223.1 a2 a4).bind fun bt227 => (if bt223.2 = 0 then (w7_PagesOver.j1 1002 l0 a1 a2 a3 a4 bt227.1 (bt227.2 != 0)) else (w7_PagesOver.j1 1002 l0 a1 a2 a3 a4 bt227.1 true)))) = some true := by
    intro e
    rw [e]
    simp only [Option.bind_some]
    cases hin : inB a2 a4.size with
    | false =>
      rw [put_out (by omega) obj_nil hin]
      simp only [Option.bind_some]
      rw [if_neg (by omega)]
      exact out1 _ _ rfl
    | true =>
      rw [put_ok (by omega) obj_nil hin]
      simp only [Option.bind_some]
      rw [if_neg (by omega)]
      exact out1 _ _ rfl
  cases hok : okF (-1) l0 with
  | false => exact first (put_bad hlen' (by omega) hok)
  | true =>
    have hO := (ok_obj l0).1 hok
    cases hin : inB a1 a3.size with
    | false => exact first (put_out (by omega) hO hin)
    | true =>
      obtain ⟨g1, g2, g3, g4⟩ := inB_iff.1 hin
      have hf := flat_F hO
      have hfs := flat_splice hf (off := a1.toNat) (d := a3) (by omega)
      have hOs := fold_obj hfs
      rw [put_ok (by omega) hO hin]
      simp only [Option.bind_some, if_true]
      cases hin2 : inB a2 a4.size with
      | false =>
        rw [put_out (by omega) hOs hin2]
        simp only [Option.bind_some]
        exact out1 _ _ rfl
      | true =>
        obtain ⟨g5, g6, g7, g8⟩ := inB_iff.1 hin2
        rw [put_ok (by omega) hOs hin2, F_fold hfs]
        have hf2 := flat_splice hfs (off := a2.toNat) (d := a4) (by omega)
        have hO2 := fold_obj hf2
        simp only [Option.bind_some, w7_PagesOver.j1, Bool.false_eq_true, if_false, show ((0 : Int) != 0) = false from rfl]
        rw [bytes_ok (by omega) hO2 hin2, F_fold hf2]
        have e1 : ((splice (splice (F l0) a1.toNat (bytesOf a3)) a2.toNat (bytesOf a4)).drop a2.toNat).take ((a4.size : Int)).toNat = bytesOf a4 := by
          have := splice_mid (splice (F l0) a1.toNat (bytesOf a3)) a2.toNat (bytesOf a4) (by rw [bytesOf_length, hfs.1]; omega)
          rwa [bytesOf_length] at this
        rw [e1, str_bytes]
        simp only [Option.bind_some, if_true, w7_PagesOver.j2, Bool.false_eq_true, if_false, show ((0 : Int) != 0) = false from rfl]
        rw [wrap_in (i := a2 + (a4.size : Int)) (by omega) (by omega), wrap_in (i := a1 + (a3.size : Int)) (by omega) (by omega)]
        have fin : ∀ b : Bool, (b = false → a2 + (a4.size : Int) ≤ a1 ∨ a1 + (a3.size : Int) ≤ a2) → w7_PagesOver.j3 1000 l0 a1 a2 a3 a4 (foldL (splice (splice (F l0) a1.toNat (bytesOf a3)) a2.toNat (bytesOf a4))) b = some true := by
          intro b hb
          cases b with
          | true =>
            simp only [w7_PagesOver.j3, if_true]
            rw [hA (by omega)]
            rfl
          | false =>
            have hx := hb rfl
            simp only [w7_PagesOver.j3, Bool.false_eq_true, if_false]
            have hfu := flat_splice hf (off := a2.toNat) (d := a4) (by omega)
            have hOu := fold_obj hfu
            rw [put_ok (by omega) hO hin2]
            simp only [Option.bind_some]
            rw [put_ok (by omega) hOu hin, F_fold hfu, hA (by omega)]
            simp only [Option.bind_some, if_true]
            have e2 := splice_comm (F l0) a1.toNat a2.toNat (bytesOf a3) (bytesOf a4) (by rw [bytesOf_length, hf.1]; omega) (by rw [bytesOf_length, hf.1]; omega) (by rw [bytesOf_length, bytesOf_length]; omega)
            rw [e2, same_k (by have := hO2.length; omega) rfl (by omega)]
            rfl
        by_cases hx : a1 < a2 + (a4.size : Int)
        · rw [if_pos hx]
          exact fin _ (fun h => by simp at h; omega)
        · rw [if_neg hx]
          exact fin false (fun _ => by omega)
end Go.Proofs.YtojnmgogigamdaaDoor.Q.Pure
