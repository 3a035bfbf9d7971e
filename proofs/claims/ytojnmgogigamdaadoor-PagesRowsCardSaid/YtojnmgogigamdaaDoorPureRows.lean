/- PagesRows (lamella/lamellalaw07.PagesRows): every page's key, and the changes that lead from any object to any other one, are the document's: for every file, page and two lists the law answers true. -/
import Derived.Test.YtojnmgogigamdaaDoorPD
import Derived.Test.YtojnmgogigamdaaDoorH3
import Derived.Test.YtojnmgogigamdaaDoorQ19
namespace Go.Proofs.YtojnmgogigamdaaDoor.Q.Pure
open Go.RowKit Go.Proofs.YtojnmgogigamdaaDoorW.PrintWords Go.Proofs.YtojnmgogigamdaaDoor.Q
set_option linter.unusedVariables false
set_option linter.unusedSimpArgs false
theorem one80 : (⟨#[80]⟩ : ByteArray) = strOfNums [80] := rfl
theorem key_ok {a n : Int} (ha : 0 ≤ a ∧ a ≤ 4294967295) (hn : 0 ≤ n ∧ n < 32) : ∃ s, pages_Key.f a n = some s ∧ r7_Key.f a n = some s := by
  refine ⟨strOfNums [80, (a / 16777216) % 256, (a / 65536) % 256, (a / 256) % 256, a % 256, (n / 256) % 256, n % 256], ?_, ?_⟩
  · unfold pages_Key.f pages_under.f
    rw [if_neg (by omega), if_neg (by omega)]
    simp only [Option.bind_some, strOfNums_size, List.length_cons, List.length_nil]
    rw [if_pos (by omega)]
    simp only [Option.bind_some]
    rw [one80, str_append, strOfNums_size, if_pos (by simp), str_append]
    rfl
  · unfold r7_Key.f
    have e1 : ((Int.tdiv a 16777216) % 4294967296) % 256 = (a / 16777216) % 256 := by rw [Int.tdiv_eq_ediv_of_nonneg (by omega)]; omega
    have e2 : ((Int.tdiv a 65536) % 4294967296) % 256 = (a / 65536) % 256 := by rw [Int.tdiv_eq_ediv_of_nonneg (by omega)]; omega
    have e3 : ((Int.tdiv a 256) % 4294967296) % 256 = (a / 256) % 256 := by rw [Int.tdiv_eq_ediv_of_nonneg (by omega)]; omega
    have e4 : (Int.tmod a 256) % 256 = a % 256 := by rw [Int.tmod_eq_emod_of_nonneg (by omega)]; omega
    have e5 : (n / 256) % 256 = 0 := by omega
    rw [e1, e2, e3, e4, e5]
theorem key_out {a n : Int} (hn : n < 0 ∨ 32 ≤ n) : pages_Key.f a n = some ⟨#[]⟩ := by
  unfold pages_Key.f
  by_cases h : n < 0
  · rw [if_pos h]
  · rw [if_neg h, if_pos (by omega)]
def findS (l : List S45) (n : Int) : ByteArray := match findB l n with
  | some p => p.f1
  | none => ⟨#[]⟩
theorem place_get : ∀ (l : List S45) (f : List ByteArray) (n : Nat), Obj l → f.length = 32 → n < 32 → (placeL l f).getD n ⟨#[]⟩ = match findB l (n : Int) with
    | some p => p.f1
    | none => f.getD n ⟨#[]⟩
  | [], f, n, _, _, _ => rfl
  | p :: t, f, n, h, hf, hn => by
    have hg := h.head
    show (placeL t (f.set p.f0.toNat p.f1)).getD n ⟨#[]⟩ = _
    rw [place_get t _ n h.tail (by rw [List.length_set]; exact hf) hn, findB_cons]
    have h0 := hg.1
    have h1 := hg.2.1
    by_cases hp : p.f0 = (n : Int)
    · rw [if_pos hp, findB_none (fun q hq => by have := h.lt q hq; omega)]
      have e : p.f0.toNat = n := by omega
      simp [e, List.getD_eq_getElem?_getD, hf, hn]
    · rw [if_neg hp]
      cases hq : findB t (n : Int) with
      | some q => rfl
      | none =>
        simp only [List.getD_eq_getElem?_getD]
        rw [List.getElem?_set_ne (by omega)]
theorem e32_get (n : Nat) : e32.getD n ⟨#[]⟩ = ⟨#[]⟩ := by
  rw [List.getD_eq_getElem?_getD]
  rcases Nat.lt_or_ge n 32 with h | h
  · have h' : n < e32.length := by rw [e32_length]; exact h
    rw [List.getElem?_eq_getElem h']
    exact List.eq_of_mem_replicate (List.getElem_mem h')
  · rw [List.getElem?_eq_none (by rw [e32_length]; exact h)]
    rfl
theorem place_find {l : List S45} (h : Obj l) {n : Nat} (hn : n < 32) : (placeL l e32).getD n ⟨#[]⟩ = findS l n := by
  rw [place_get l e32 n h e32_length hn]
  unfold findS
  cases findB l (n : Int) with
  | some p => rfl
  | none => exact e32_get n
theorem find_loop (l : List S45) (hl : l.length ≤ 200) (n : Int) : ∀ (d k i : Nat), i + d = l.length → d < k → (∀ j : Nat, j < i → (rd_T45 l j).f0 ≠ n) → r7_Find.l0 k l n (i : Int) = some (findS (l.drop i) n) := by
  intro d
  induction d with
  | zero =>
    intro k i hi hk h
    obtain ⟨k, rfl⟩ : ∃ m, k = m + 1 := ⟨k - 1, by omega⟩
    simp only [r7_Find.l0]
    rw [if_neg (by omega), List.drop_eq_nil_of_le (by omega)]
    rfl
  | succ d ih =>
    intro k i hi hk h
    obtain ⟨k, rfl⟩ : ∃ m, k = m + 1 := ⟨k - 1, by omega⟩
    simp only [r7_Find.l0]
    rw [if_pos (by omega), if_pos (by omega), drop45 l i (by omega)]
    unfold findS
    rw [findB_cons]
    by_cases hz : (rd_T45 l (i : Int)).f0 = n
    · rw [if_pos hz, if_pos hz]
    · rw [if_neg hz, if_neg hz, wrap_in (by omega) (by omega)]
      refine ih k (i + 1) (by omega) (by omega) (fun j hj => ?_)
      rcases Nat.lt_or_ge j i with h1 | h1
      · exact h j h1
      · obtain rfl : j = i := by omega
        exact hz
theorem find_k {l : List S45} (h : l.length ≤ 200) {n : Int} {k : Nat} (hk : 200 < k) : r7_Find.f k l n = some (findS l n) := find_loop l h n l.length k 0 (by omega) (by omega) (fun j hj => by omega)
theorem nil_iff (s : ByteArray) : s.toList = [] ↔ s = ⟨#[]⟩ := by
  rw [ByteArray.toList_eq]
  constructor
  · intro h
    apply ByteArray.ext
    apply Array.ext'
    exact h
  · rintro rfl
    rfl
theorem list_iff (s t : ByteArray) : s.toList = t.toList ↔ s = t := by
  rw [ByteArray.toList_eq, ByteArray.toList_eq]
  constructor
  · intro h
    apply ByteArray.ext
    apply Array.ext'
    exact h
  · rintro rfl
    rfl
theorem changes_loop {a : Int} (ha : 0 ≤ a ∧ a ≤ 4294967295) {x y : List S45} (hx : Obj x) (hy : Obj y) : ∃ c : List S67, c.length ≤ 32 ∧ chO a (placeL x e32) (placeL y e32) 32 = some c ∧ ∀ k : Nat, 400 < k → r7_Changes.f k a x y = some c := by
  have hlx := hx.length
  have hly := hy.length
  have key : ∀ n : Nat, n ≤ 32 → ∃ c : List S67, c.length ≤ n ∧ chO a (placeL x e32) (placeL y e32) n = some c ∧ ∀ k : Nat, 300 < k → r7_Changes.l0 (k + 2 * n) a x y [] 0 = r7_Changes.l0 k a x y c (n : Int) ∨ ∃ k', k ≤ k' ∧ r7_Changes.l0 (k + 2 * n) a x y [] 0 = r7_Changes.l0 k' a x y c (n : Int) := by
    intro n
    induction n with
    | zero => exact fun _ => ⟨[], by simp, rfl, fun k _ => .inl rfl⟩
    | succ n ih =>
      intro hn
      obtain ⟨c, hc, hch, hloop⟩ := ih (by omega)
      obtain ⟨key, hk1, hk2⟩ := key_ok (n := (n : Int)) ha ⟨by omega, by omega⟩
      have estep : ∀ d : List S67, chO a (placeL x e32) (placeL y e32) (n + 1) = some d → (∀ k : Nat, 300 < k → ∃ k', k ≤ k' ∧ r7_Changes.l0 (k + 2) a x y c (n : Int) = r7_Changes.l0 k' a x y d ((n + 1 : Nat) : Int)) → d.length ≤ n + 1 → ∃ d : List S67, d.length ≤ n + 1 ∧ chO a (placeL x e32) (placeL y e32) (n + 1) = some d ∧ ∀ k : Nat, 300 < k → r7_Changes.l0 (k + 2 * (n + 1)) a x y [] 0 = r7_Changes.l0 k a x y d ((n + 1 : Nat) : Int) ∨ ∃ k', k ≤ k' ∧ r7_Changes.l0 (k + 2 * (n + 1)) a x y [] 0 = r7_Changes.l0 k' a x y d ((n + 1 : Nat) : Int) := by
        intro d hd hs hlen
        refine ⟨d, hlen, hd, fun k hk => .inr ?_⟩
        have e : k + 2 * (n + 1) = (k + 2) + 2 * n := by omega
        rw [e]
        rcases hloop (k + 2) (by omega) with h | ⟨k', hk', h⟩
        · obtain ⟨k2, hk2, h2⟩ := hs k hk
          exact ⟨k2, hk2, h.trans h2⟩
        · obtain ⟨q, rfl⟩ : ∃ q, k' = q + 2 := ⟨k' - 2, by omega⟩
          obtain ⟨k2, hk2, h2⟩ := hs q (by omega)
          exact ⟨k2, by omega, h.trans h2⟩
      have ew : wrap64 ((n : Int) + 1) = ((n + 1 : Nat) : Int) := by rw [wrap_in (by omega) (by omega)]; omega
      have eq1 : chO a (placeL x e32) (placeL y e32) (n + 1) = (if (findS x n).toList = (findS y n).toList then some c else some (c ++ [(⟨key, findS y n, (findS y n).toList.isEmpty⟩ : S67)])) := by
        unfold chO
        rw [hch, place_find hx (by omega), place_find hy (by omega), hk1]
        rfl
      have go : ∀ k : Nat, 300 < k → r7_Changes.l0 (k + 2) a x y c (n : Int) = (if (findS x n).toList = ([] : List UInt8) then (r7_Changes.j1 (k + 1) a x y c (n : Int) (findS x n) (findS y n) false) else (r7_Changes.j1 (k + 1) a x y c (n : Int) (findS x n) (findS y n) ((findS y n).toList == ([] : List UInt8)))) := by
        intro k hk
        simp only [r7_Changes.l0]
        rw [if_pos (by omega), find_k (by omega) (by omega), find_k (by omega) (by omega)]
        rfl
      have hg : ∀ (l : List S45), Obj l → findS l n ≠ ⟨#[]⟩ ∨ findS l n = ⟨#[]⟩ := fun l _ => by
        by_cases h : findS l n = ⟨#[]⟩
        · exact .inr h
        · exact .inl h
      by_cases hA : findS x n = ⟨#[]⟩
      · by_cases hB : findS y n = ⟨#[]⟩
        · refine estep c (by rw [eq1, if_pos (by rw [hA, hB])]) (fun k hk => ⟨k, Nat.le_refl _, ?_⟩) (by omega)
          rw [go k hk, if_pos ((nil_iff _).2 hA)]
          simp only [r7_Changes.j1, Bool.false_eq_true, if_false]
          rw [if_pos ((nil_iff _).2 hB), ew]
        · have hne : ¬ (findS x n).toList = (findS y n).toList := fun h => hB (((list_iff _ _).1 h).symm.trans hA)
          have hemp : (findS y n).toList.isEmpty = false := by
            cases h : (findS y n).toList.isEmpty with
            | false => rfl
            | true => exact absurd ((nil_iff _).1 (List.isEmpty_iff.1 h)) hB
          refine estep (c ++ [(⟨key, findS y n, false⟩ : S67)]) (by rw [eq1, if_neg hne, hemp]) (fun k hk => ⟨k, Nat.le_refl _, ?_⟩) (by simp; omega)
          rw [go k hk, if_pos ((nil_iff _).2 hA)]
          simp only [r7_Changes.j1, Bool.false_eq_true, if_false]
          rw [if_neg (fun h => hB ((nil_iff _).1 h)), if_neg hne, hk2]
          simp only [Option.bind_some]
          rw [if_pos (by omega), ew]
      · by_cases hB : findS y n = ⟨#[]⟩
        · have hne : ¬ (findS x n).toList = (findS y n).toList := fun h => hA (((list_iff _ _).1 h).trans hB)
          refine estep (c ++ [(⟨key, ⟨#[]⟩, true⟩ : S67)]) (by rw [eq1, if_neg hne, hB, show (⟨#[]⟩ : ByteArray).toList.isEmpty = true by rw [ByteArray.toList_eq]; rfl]) (fun k hk => ⟨k, Nat.le_refl _, ?_⟩) (by simp; omega)
          rw [go k hk, if_neg (fun h => hA ((nil_iff _).1 h)), beq_iff_eq.mpr ((nil_iff _).2 hB)]
          simp only [r7_Changes.j1, if_true]
          rw [hk2]
          simp only [Option.bind_some]
          rw [if_pos (by omega), if_pos ((nil_iff _).2 hB), ew]
        · have hb : ((findS y n).toList == ([] : List UInt8)) = false := beq_eq_false_iff_ne.mpr (fun h => hB ((nil_iff _).1 h))
          by_cases he : (findS x n).toList = (findS y n).toList
          · refine estep c (by rw [eq1, if_pos he]) (fun k hk => ⟨k, Nat.le_refl _, ?_⟩) (by omega)
            rw [go k hk, if_neg (fun h => hA ((nil_iff _).1 h)), hb]
            simp only [r7_Changes.j1, Bool.false_eq_true, if_false]
            rw [if_neg (fun h => hB ((nil_iff _).1 h)), if_pos he, ew]
          · have hemp : (findS y n).toList.isEmpty = false := by
              cases h : (findS y n).toList.isEmpty with
              | false => rfl
              | true => exact absurd ((nil_iff _).1 (List.isEmpty_iff.1 h)) hB
            refine estep (c ++ [(⟨key, findS y n, false⟩ : S67)]) (by rw [eq1, if_neg he, hemp]) (fun k hk => ⟨k, Nat.le_refl _, ?_⟩) (by simp; omega)
            rw [go k hk, if_neg (fun h => hA ((nil_iff _).1 h)), hb]
            simp only [r7_Changes.j1, Bool.false_eq_true, if_false]
            rw [if_neg (fun h => hB ((nil_iff _).1 h)), if_neg he, hk2]
            simp only [Option.bind_some]
            rw [if_pos (by omega), ew]
  obtain ⟨c, hc, hch, hloop⟩ := key 32 (Nat.le_refl _)
  refine ⟨c, hc, hch, fun k hk => ?_⟩
  have fin : ∀ k : Nat, 300 < k → r7_Changes.l0 k a x y c ((32 : Nat) : Int) = some c := by
    intro k hk
    obtain ⟨k, rfl⟩ : ∃ m, k = m + 1 := ⟨k - 1, by omega⟩
    simp only [r7_Changes.l0]
    rw [if_neg (by omega)]
  obtain ⟨q, rfl⟩ : ∃ q, k = q + 2 * 32 := ⟨k - 64, by omega⟩
  show r7_Changes.l0 (q + 2 * 32) a x y [] 0 = some c
  rcases hloop q (by omega) with h | ⟨k', hk', h⟩
  · rw [h]; exact fin q (by omega)
  · rw [h]; exact fin k' (by omega)
theorem samech_loop (l : List S67) (hl : l.length ≤ 200) : ∀ (d k i : Nat), i + d = l.length → d < k → r7_SameChanges.l0 k l l (i : Int) = some true := by
  intro d
  induction d with
  | zero =>
    intro k i hi hk
    obtain ⟨k, rfl⟩ : ∃ m, k = m + 1 := ⟨k - 1, by omega⟩
    simp only [r7_SameChanges.l0]
    rw [if_neg (by omega)]
  | succ d ih =>
    intro k i hi hk
    obtain ⟨k, rfl⟩ : ∃ m, k = m + 1 := ⟨k - 1, by omega⟩
    simp only [r7_SameChanges.l0]
    rw [if_pos (by omega), if_pos (by omega), if_pos (by omega), if_neg (by simp), wrap_in (by omega) (by omega)]
    exact ih k (i + 1) (by omega) (by omega)
theorem samech_k (l : List S67) (hl : l.length ≤ 200) {k : Nat} (hk : 200 < k) : r7_SameChanges.f k l l = some true := by
  unfold r7_SameChanges.f
  rw [if_pos rfl]
  exact samech_loop l hl l.length k 0 (by omega) (by omega)
theorem PagesRows (a0 a1 : Int) (l2 l3 : List S45) (h0 : (Lit.int .u32 a0).wf = true) (_ : (Lit.int .i64 a1).wf = true) (_ : l2.length ≤ maxLen ∧ ∀ x ∈ l2, ((Lit.int .i64 x.f0).wf = true ∧ x.f1.size ≤ maxLen)) (_ : l3.length ≤ maxLen ∧ ∀ x ∈ l3, ((Lit.int .i64 x.f0).wf = true ∧ x.f1.size ≤ maxLen)) :
    ∃ k, w7_PagesRows.f k a0 a1 l2 l3 = some true := by
  have ha : 0 ≤ a0 ∧ a0 ≤ 4294967295 := by
    simp [Lit.wf, IntKind.min, IntKind.max, IntKind.signed, IntKind.bits] at h0
    omega
  refine ⟨2003, ?_⟩
  have hA : ∀ {k : Nat}, 40 ≤ k → w7_alive.f k = some true := alive_k
  have out : ∀ b : Bool, b = true → w7_PagesRows.j0 2003 a0 a1 l2 l3 b = some true := by
    rintro _ rfl
    simp only [w7_PagesRows.j0, if_true]
    rw [hA (by omega)]
    rfl
  unfold w7_PagesRows.f
  rw [hA (by omega)]
  simp only [Option.bind_some, if_true]
  by_cases hlen : (l2.length : Int) > 200
  · rw [if_pos hlen]; exact out true rfl
  rw [if_neg hlen]
  by_cases hlen3 : (l3.length : Int) > 200
  · rw [decide_eq_true hlen3]; exact out true rfl
  rw [decide_eq_false hlen3]
  have hl2 : l2.length ≤ 200 := by omega
  have hl3 : l3.length ≤ 200 := by omega
  simp only [w7_PagesRows.j0, Bool.false_eq_true, if_false]
  obtain ⟨c, e, hch, hlate⟩ : ∃ (c : List S67) (e : Int), pages_Changes.f 2002 a0 l2 l3 = some (c, e) ∧ w7_PagesRows.j2 2001 a0 l2 l3 c e = some true := by
    have bad : ∀ b : Bool, b = true → w7_PagesRows.j3 2000 a0 l2 l3 [] 1 b = some true := by
      rintro _ rfl
      simp only [w7_PagesRows.j3, if_true]
      rw [hA (by omega)]
      rfl
    cases h2 : okF (-1) l2 with
    | false =>
      refine ⟨[], 1, ?_, ?_⟩
      · unfold pages_Changes.f
        rw [right_k hl2 (by omega), h2]
        rfl
      · simp only [w7_PagesRows.j2]
        rw [refright_k hl2 (by omega), h2]
        exact bad _ rfl
    | true =>
      cases h3 : okF (-1) l3 with
      | false =>
        refine ⟨[], 1, ?_, ?_⟩
        · unfold pages_Changes.f
          rw [right_k hl2 (by omega), h2, right_k hl3 (by omega), h3]
          rfl
        · simp only [w7_PagesRows.j2]
          rw [refright_k hl2 (by omega), h2, refright_k hl3 (by omega), h3]
          exact bad _ rfl
      | true =>
        have hO2 := (ok_obj l2).1 h2
        have hO3 := (ok_obj l3).1 h3
        obtain ⟨c, hc, hch, href⟩ := changes_loop ha hO2 hO3
        refine ⟨c, 0, ?_, ?_⟩
        · unfold pages_Changes.f
          rw [right_k hl2 (by omega), h2, right_k hl3 (by omega), h3]
          simp only [Option.bind_some, if_true]
          rw [hch]
          rfl
        · simp only [w7_PagesRows.j2]
          rw [refright_k hl2 (by omega), h2, refright_k hl3 (by omega), h3]
          simp only [Option.bind_some, if_true, Bool.not_true, w7_PagesRows.j3, Bool.false_eq_true, if_false]
          rw [hA (by omega)]
          simp only [Option.bind_some, if_true]
          rw [href _ (by omega)]
          simp only [Option.bind_some]
          rw [samech_k c (by omega) (by omega)]
          rfl
  rw [hch]
  have late : ∀ (s : ByteArray) (b : Bool), pages_Key.f a0 a1 = some s → (b = true → s.toList = ([] : List UInt8)) → (b = false → 0 ≤ a1 ∧ a1 < 32) → w7_PagesRows.j1 2002 a0 a1 l2 l3 s c e b = some true := by
    intro s b hs ht hf
    cases b with
    | true =>
      simp only [w7_PagesRows.j1, if_true]
      rw [if_pos (ht rfl)]
      exact hlate
    | false =>
      obtain ⟨key, hk1, hk2⟩ := key_ok (n := a1) ha (hf rfl)
      rw [hs] at hk1
      obtain rfl := Option.some.inj hk1
      simp only [w7_PagesRows.j1, Bool.false_eq_true, if_false]
      rw [hk2]
      simp only [Option.bind_some, if_true]
      exact hlate
  by_cases hn : a1 < 0
  · have hk := key_out (a := a0) (n := a1) (.inl hn)
    rw [hk]
    simp only [Option.bind_some]
    rw [if_pos hn]
    exact late _ true hk (fun _ => (nil_iff _).2 rfl) (fun h => by cases h)
  · by_cases hn2 : a1 > 31
    · have hk := key_out (a := a0) (n := a1) (.inr (by omega))
      rw [hk]
      simp only [Option.bind_some]
      rw [if_neg hn, decide_eq_true hn2]
      exact late _ true hk (fun _ => (nil_iff _).2 rfl) (fun h => by cases h)
    · obtain ⟨key, hk1, _⟩ := key_ok (n := a1) ha ⟨by omega, by omega⟩
      rw [hk1]
      simp only [Option.bind_some]
      rw [if_neg hn, decide_eq_false hn2]
      exact late _ false hk1 (fun h => by cases h) (fun _ => ⟨by omega, by omega⟩)
end Go.Proofs.YtojnmgogigamdaaDoor.Q.Pure
