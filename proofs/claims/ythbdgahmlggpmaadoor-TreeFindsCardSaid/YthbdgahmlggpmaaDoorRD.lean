/- How arguments of slices and structs, nested in whatever way, are read as the print's kinds; for every world. -/
import Derived.Test.YthbdgahmlggpmaaDoorWWords
import Derived.Deep.Slices
import Derived.Deep.Fields
import Derived.ChangeSame
import Derived.ChangeArms
namespace Go.Proofs.YthbdgahmlggpmaaDoorW.Rdg
open Go.RowKit Go.ChangeShapes Go.WideShapes Go.Deep Go.Proofs.YthbdgahmlggpmaaDoorW.PrintWords
set_option linter.unusedVariables false

/-- What is read at a type is told by a kind. -/
def Rd {α : Type} (P : Program) (T : TypeId) (d : Kd α) (wf : α → Prop) : Prop :=
  ∀ (H : Type) (enc : TypeId × Value → H) (w : World) (n : Nat) (cs : List Value) (x : DataW H × List MemPlace), DataW.trod enc P w 0 (fun _ => true) true n T cs = some x → ∃ a : α, d.K w a cs ∧ wf a
/-- .. the same of a struct's fields from a place on. -/
def RdF {α : Type} (P : Program) (fs : List Field) (off : Nat) (d : Kd α) (wf : α → Prop) : Prop :=
  ∀ (H : Type) (enc : TypeId × Value → H) (w : World) (n : Nat) (cs : List Value), (∀ f ∈ fs, ∃ x, DataW.trod enc P w 0 (fun _ => true) true n f.type ((cs.drop f.offset).take (P.cellsOf f.type)) = some x) → ∃ a : α, d.K w a ((cs.drop off).take d.sz) ∧ wf a
variable {P : Program}
theorem rd_int {T : TypeId} {k : IntKind} (h : P.underlying T = some (.int k)) : Rd P T (Kd.int k) (fun x => (Lit.int k x).wf = true) := by
  intro H enc w n cs x ht
  obtain ⟨v, rfl, _, hw⟩ := DataW.trod_int h ht
  exact ⟨v, rfl, hw⟩
theorem rd_bool {T : TypeId} (h : P.underlying T = some .bool) : Rd P T Kd.bool (fun _ => True) := by
  intro H enc w n cs x ht
  obtain ⟨v, rfl, _⟩ := DataW.trod_bool h ht
  exact ⟨v, rfl, trivial⟩
theorem rd_string {T : TypeId} (h : P.underlying T = some .string) : Rd P T Kd.string (fun s => s.size ≤ maxLen) := by
  intro H enc w n cs x ht
  obtain ⟨v, rfl, _, hs⟩ := DataW.trod_string h ht
  exact ⟨v, rfl, hs⟩
theorem rd_iso {α β : Type} {T : TypeId} {d : Kd α} {wf : α → Prop} (f : β → α) (g : α → β) (hfg : ∀ a, f (g a) = a) (h : Rd P T d wf) : Rd P T (Kd.iso d f) (fun b => wf (f b)) := by
  intro H enc w n cs x ht
  obtain ⟨a, hk, hw⟩ := h H enc w n cs x ht
  exact ⟨g a, by show d.K w (f (g a)) cs; rw [hfg]; exact hk, by show wf (f (g a)); rw [hfg]; exact hw⟩
theorem rdf_last {α : Type} {f : Field} {off : Nat} {d : Kd α} {wf : α → Prop} (h : Rd P f.type d wf) (ho : f.offset = off) (hc : P.cellsOf f.type = d.sz) : RdF P [f] off d wf := by
  intro H enc w n cs hf
  obtain ⟨x, hx⟩ := hf f (by simp)
  rw [ho, hc] at hx
  exact h H enc w n _ x hx
theorem rdf_cons {α β : Type} {f : Field} {fs : List Field} {off : Nat} {a : Kd α} {b : Kd β} {wa : α → Prop} {wb : β → Prop} (h : Rd P f.type a wa) (ho : f.offset = off) (hc : P.cellsOf f.type = a.sz) (hr : RdF P fs (off + a.sz) b wb) :
    RdF P (f :: fs) off (Kd.pair a b) (fun x => wa x.1 ∧ wb x.2) := by
  intro H enc w n cs hf
  obtain ⟨x, hx⟩ := hf f (by simp)
  rw [ho, hc] at hx
  obtain ⟨u, hu, hwu⟩ := h H enc w n _ x hx
  obtain ⟨v, hv, hwv⟩ := hr H enc w n cs (fun g hg => hf g (by simp [hg]))
  refine ⟨(u, v), ⟨_, _, ?_, hu, hv⟩, hwu, hwv⟩
  show (cs.drop off).take (a.sz + b.sz) = _
  rw [List.take_add, List.drop_drop]
theorem rd_struct {α : Type} {T : TypeId} {fs : Array Field} {d : Kd α} {wf : α → Prop} (hu : P.underlying T = some (.struct fs)) (hc : P.cellsOf T = d.sz) (h : RdF P fs.toList 0 d wf) : Rd P T d wf := by
  intro H enc w n cs x ht
  obtain ⟨xs, m, rfl, _, hl, hxl, hf⟩ := DataW.trod_struct hu ht
  obtain ⟨a, hk, hw⟩ := h H enc w m cs (fun f hm => by
    obtain ⟨i, hi, rfl⟩ := List.mem_iff_getElem.1 hm
    have hi' : i < fs.size := by simpa using hi
    have h1 := hf i fs[i] (by simp [hi'])
    rw [List.getElem?_eq_getElem (by omega)] at h1
    exact ⟨_, by simpa using h1⟩)
  refine ⟨a, ?_, hw⟩
  have : (cs.drop 0).take d.sz = cs := by rw [List.drop_zero, ← hc, ← hl, List.take_length]
  rwa [this] at hk
theorem rd_slice {α : Type} [Inhabited α] {T e : TypeId} {d : Kd α} {wf : α → Prop} (hu : P.underlying T = some (.slice e)) (hc : P.cellsOf e = d.sz) (h : Rd P e d wf) : Rd P T (Kd.slice e d) (fun xs => xs.length ≤ maxLen ∧ ∀ x ∈ xs, wf x) := by
  intro H enc w n cs x ht
  rcases DataW.trod_slice hu ht with ⟨rfl, _⟩ | ⟨a, len, cap, elems, rest, m, _, rfl, _, _, hlc, hcm, hel, hat, _, _⟩
  · exact ⟨[], ⟨none, 0, rfl, Nat.le_refl _, rfl, by simp, fun hp => absurd hp (by simp)⟩, by simp, fun x hx => by simp at hx⟩
  · obtain ⟨f, hf⟩ := choose_lt (α := α) (n := len) (p := fun i y => ∃ c, c.length = d.sz ∧ d.K w y c ∧ wf y ∧ ∀ j u, c[j]? = some u → w.cell? (a.add (i * d.sz + j)) = some u) (fun i hi => by
      have h1 := hat i hi
      rw [List.getElem?_eq_getElem (by omega)] at h1
      obtain ⟨c, hcells, htr⟩ := Option.bind_eq_some_iff.1 h1
      obtain ⟨_, hl, hcell⟩ := World.cells?_some hcells
      obtain ⟨y, hk, hw⟩ := h H enc w m c _ htr
      rw [hc] at hl hcell
      refine ⟨y, c, hl, hk, hw, fun j u hj => ?_⟩
      have hjl : j < c.length := (List.getElem?_eq_some_iff.1 hj).1
      rw [← Go.Deep.add_add, hcell j (by omega), hj])
    refine ⟨(List.range len).map f, ⟨some a, cap, by simp, by simpa using hlc, by simp, by simp only [List.length_map, List.length_range]; unfold maxLen at hcm; omega, fun _ => ⟨a, rfl, fun j p hp => ?_⟩⟩, by simp; omega, fun y hy => ?_⟩
    · rw [List.getElem?_map] at hp
      obtain ⟨i, hi, rfl⟩ := Option.map_eq_some_iff.1 hp
      obtain ⟨hil, rfl⟩ : i < len ∧ j = i := by
        have := List.getElem?_eq_some_iff.1 hi
        obtain ⟨h1, h2⟩ := this
        simp at h1 h2
        omega
      obtain ⟨c, hl, hk, _, hcell⟩ := hf j hil
      exact ⟨c, hl, hk, hcell⟩
    · obtain ⟨i, hi, rfl⟩ := List.mem_map.1 hy
      obtain ⟨c, _, _, hw, _⟩ := hf i (by simpa using hi)
      exact hw
end Go.Proofs.YthbdgahmlggpmaaDoorW.Rdg
