/- TreeFinds (lamella/lamellalaw10.TreeFinds): for every input the law returns true and leaves its input as it was; the row and its tied card. -/
import Derived.Test.YthbdgahmlggpmaaDoorRows
import Derived.Test.YthbdgahmlggpmaaDoorCards
import Derived.Test.YthbdgahmlggpmaaDoorTie
import Derived.Test.YthbdgahmlggpmaaDoorQ0
import Derived.Test.YthbdgahmlggpmaaDoorQ0
import Derived.Test.YthbdgahmlggpmaaDoorPureFinds
import Derived.Test.YthbdgahmlggpmaaDoorRD
import Derived.WalkKit
import Derived.ProofKit
import Derived.OpenShut
import Derived.ShutString
import Derived.ChangeOld
import Derived.Below
import Derived.SizedLaws
import Derived.Deep.DeepHandedRow
import Derived.Lib.LaidTab
import Derived.SevenTiedAt
namespace Go.Proofs.YthbdgahmlggpmaaDoor.treeFinds
open Go.ChangeShapes Go.WideShapes Go.ChangeAt Go.RowKit
open Go.ChangeMaps (open_string shut_string)
open Go.Proofs.YthbdgahmlggpmaaDoorW.PrintWords Go.Proofs.YthbdgahmlggpmaaDoorW.Rdg Go.Proofs.YthbdgahmlggpmaaDoor.Q
set_option linter.unusedVariables false
set_option linter.unusedSimpArgs false
theorem own : ownKnob Tryd.prog.godebug = none := by kernel_rfl
theorem laidOut : laidOutB Tryd.prog = true := by kernel_rfl
instance : Inhabited S34 := ⟨z34⟩
def wf34 (x : S34) : Prop := (fun x : Int => (Lit.int .u32 x).wf = true) x.f0 ∧ (fun x : Int => (Lit.int .u32 x).wf = true) x.f1 ∧ (fun s : ByteArray => s.size ≤ maxLen) x.f2 ∧ (fun _ : Bool => True) x.f3 ∧ (fun x : Int => (Lit.int .u32 x).wf = true) x.f4
theorem rd34 : Rd Tryd.prog 34 k34 wf34 := rd_iso (fun x : S34 => (x.f0, x.f1, x.f2, x.f3, x.f4)) (fun x => ⟨x.1, x.2.1, x.2.2.1, x.2.2.2.1, x.2.2.2.2⟩) (fun _ => rfl) (rd_struct Tryd.underlying34 (by kernel_rfl) (rdf_cons (rd_int Tryd.underlying31) rfl (by kernel_rfl) (rdf_cons (rd_int Tryd.underlying31) rfl (by kernel_rfl) (rdf_cons (rd_string Tryd.underlying9) rfl (by kernel_rfl) (rdf_cons (rd_bool Tryd.underlying4) rfl (by kernel_rfl) (rdf_last (rd_int Tryd.underlying31) rfl (by kernel_rfl)))))))
set_option maxRecDepth 100000 in
theorem contract (H : Type) (enc : TypeId × Value → H) (W : World) (base : Nat) (args : Array Value) (ds gs : List (DataW H)) (before : List MemPlace)
    (hval0 : ∀ (j : Nat) t v, Tryd.f10.params[j]? = some t → args[j]? = some v → Value.okWide Tryd.prog W .any base t v)
    (hW : DataW.Whole enc Tryd.prog Tryd.f10.params.toList Rows.treeFindsSpec.vars false W args.toList ds gs before) :
    Calls Tryd.prog 10 args W fun e W' => ∃ v, e = .returned v ∧ Rows.treeFindsSpec.post enc Tryd.prog Tryd.f10 false true false false W args v W' := by
  have hval := hval0
  have hW' := hW
  obtain ⟨p, q, hA0, hV, rfl, hfz, hnd⟩ := hW
  have hA : DataW.TrodAll enc Tryd.prog W 0 (fun _ => true) true Tryd.f10.params.toList args.toList ds p := hA0
  rw [Tryd.params10] at hA hval
  obtain ⟨v0, vs0, d0, ds0, p0, q0, hargs, rfl, rfl, h0, r0⟩ := trodAll_cons hA
  obtain ⟨v1, vs1, d1, ds1, p1, q1, rfl, rfl, rfl, h1, r1⟩ := trodAll_cons r0
  obtain ⟨rfl, rfl, rfl⟩ := trodAll_nil r1
  obtain rfl : args = #[v0, v1] := by cases args; simp_all
  obtain ⟨rfl, rfl⟩ := trodVars_none hV
  obtain ⟨a0, len0, cap0, rfl⟩ := okWide_slice Tryd.underlying22 (hval 0 22 v0 rfl rfl)
  have k0_ := h0
  have lt0 : ∀ x ∈ p0, x.block < W.heap.size := by obtain ⟨m, hm⟩ := k0_; exact DataW.trod_lt m _ _ _ hm
  obtain ⟨l0, hl0, hc0, hr0, hwf0⟩ : ∃ l : List (S34), len0 = l.length ∧ l.length ≤ cap0 ∧ Kd.C k34 W a0 l.length l ∧ (fun xs : List (S34) => xs.length ≤ maxLen ∧ ∀ x ∈ xs, wf34 x) l := by
    obtain ⟨fuel, hf⟩ := h0
    obtain ⟨l, ⟨A_, c_, hcs, hlc, hC⟩, hw⟩ := (rd_slice Tryd.underlying22 (by kernel_rfl) rd34) _ _ _ _ _ _ hf
    simp only [Value.cells, List.cons.injEq, Value.slice.injEq, and_true] at hcs
    obtain ⟨rfl, rfl, rfl⟩ := hcs
    exact ⟨l, rfl, hlc, hC, hw⟩
  subst hl0
  obtain ⟨a1, rfl, rfl, rfl, y1⟩ := open_string Tryd.underlying9 (hval 1 9 v1 rfl rfl) h1
  clear hA0 hval0
  obtain ⟨k, hk⟩ := Pure.TreeFinds l0 a1 hwf0 y1
  refine (w10_TreeFinds.calls k _ _ l0 a1 true W hr0 hc0 hk).mono fun e W' ⟨he, bel0⟩ => ?_
  have bel : Below W.heap.size W W' := by first | exact bel0 | exact bel0.below
  subst he
  exact ⟨_, rfl, _, _, _, [], _, [], hW', trodAll_mk1 (shut_bool Tryd.underlying4 _), (trodAll_cons_mk (Below.trod laidOut (by kernel_rfl) (of_decide_eq_true (by kernel_rfl)) k0_ bel lt0) (trodAll_cons_mk (shut_string Tryd.underlying9 y1) trodAll_mk0)), rfl, bel.frame _, fun h => by cases h⟩
/-- A datum's cells. -/
def flatD : Nat → DataW Unit → List Value
  | 0, _ => []
  | m + 1, .lit (.int k v) => [.int k v]
  | m + 1, .lit (.bool b) => [.bool b]
  | m + 1, .agg ds => ds.flatMap (flatD m)
  | _ + 1, _ => []
/-- A WORLD FOR THE WITNESS: the settled one, the listed variables holding what is listed. -/
noncomputable def laidWorld (os : Os) : World :=
  { World.holding Tryd.prog os ⟨#[], #[], []⟩ with heap := (((World.holding Tryd.prog os ⟨#[], #[], []⟩).heap.modify 2 fun | .cells _ t fr => .cells (flatD 8 Rows.laid_unicode_utf8_acceptRanges).toArray t fr | o => o).modify 1 fun | .cells _ t fr => .cells (flatD 8 Rows.laid_unicode_utf8_first).toArray t fr | o => o) }
theorem laid_met (os : Os) : laidMet Tryd.prog Rows.treeFindsRow.laid ((laidWorld os).forCall (fun _ _ => 0) ⟨#[], #[.slice none 0 0, .string ByteArray.empty], []⟩).memory := laidMet_of_run' 8 (by kernel_rfl) (by kernel_rfl)
theorem reads (os : Os) {H : Type} (enc : TypeId × Value → H) : ∃ places, DataW.whole enc Tryd.prog ((laidWorld os).forCall (fun _ _ => 0) ⟨#[], #[.slice none 0 0, .string ByteArray.empty], []⟩).memory Tryd.f10.params.toList Rows.treeFindsSpec.vars false (#[.slice none 0 0, .string ByteArray.empty] : Array Value).toList 8 = some ([.nil, .lit (.string [])], [], places) :=
  ⟨[], by kernel_rfl⟩
set_option maxRecDepth 100000 in
theorem lifted (os : Os) (started : os.Started) (H : Type) (enc : TypeId × Value → H) (F : Stop.Interp) :
    ReturnsInHanded {} Tryd.checked os 10 .any ((OpenSpec.ofChange Rows.treeFindsSpec).preRow enc Tryd.prog Tryd.f10 Rows.treeFindsRow.domain false Rows.treeFindsRow.laid) (((OpenSpec.ofChange Rows.treeFindsSpec).at F).post enc Tryd.prog Tryd.f10 false true false false) := by
  obtain ⟨places, hx⟩ := reads os enc
  refine returnsInHanded_of_row (C := Tryd.checked) (s := OpenSpec.ofChange Rows.treeFindsSpec) own started (by kernel_rfl) Tryd.func10
    (witness_row_at (enc := enc) (C := Tryd.checked) false (laidWorld os) #[.slice none 0 0, .string ByteArray.empty] rfl (by kernel_rfl) (by kernel_rfl) (by kernel_rfl)
      (OpenSpec.preRow_of_cond 8 hx (by kernel_rfl) (fun k hk => by cases hk) (by kernel_rfl) (laid_met os))) ?_
  intro W base args ds gs before hval hW _ _ _ hL _ _
  exact contract H enc W base args ds gs before hval hW
theorem said : Rows.TreeFindsSaid :=
  OpenClaim.holds_of_cond 10 Tryd.f10 rfl rfl rfl rfl rfl rfl rfl ⟨rfl, rfl, rfl, rfl, rfl⟩ rfl rfl rfl rfl rfl (by kernel_rfl) Tryd.func10 (by kernel_rfl)
    (of_decide_eq_true (by kernel_rfl)) (by unfold Func.isWrapper; first | (rw [if_pos (by decide +kernel)]; kernel_rfl) | (rw [if_neg (by decide +kernel)]; exact ⟨rfl, rfl⟩))
    (fun os started H enc _ F => by rw [OpenClaim.pre_eq_preRow]; exact lifted os started H enc F)
theorem plain (f : FuncId) (fn : Func) (hf : Tryd.pinned.checked.prog.funcNamed "lamella/lamellalaw10.TreeFinds" = some f) (hfn : Tryd.pinned.checked.prog.funcs[f]? = some fn) :
    false = Tryd.pinned.checked.prog.looks [] ∧ ∀ (j : Nat) t, fn.params[j]? = some t → Tryd.pinned.checked.prog.wantsStandIn t = false := by
  obtain rfl : f = 10 := Option.some.inj ((show Tryd.prog.funcNamed "lamella/lamellalaw10.TreeFinds" = some 10 by kernel_rfl).symm.trans hf) |>.symm
  obtain rfl : fn = Tryd.f10 := (Option.some.inj (Tryd.func10.symm.trans hfn)).symm
  refine ⟨by kernel_rfl, fun j t ht => ?_⟩
  rw [Tryd.params10] at ht
  have hm : t ∈ [22, 9] := by simpa using Array.mem_of_getElem? ht
  have hall : ([22, 9].all fun u => !Tryd.prog.wantsStandIn u) = true := by kernel_rfl
  exact (show Tryd.prog.wantsStandIn t = false by simpa using List.all_eq_true.1 hall t hm)
theorem card : Rows.TreeFindsCardSaid :=
  Claim7.holds_tied_plain_at .later [] _ _ _ _ said (fun _ h => by cases h) (by kernel_rfl) (fun _ h => by cases h) treeFinds_row_tie rfl ⟨rfl, rfl⟩ (by kernel_rfl) rfl plain (by kernel_rfl)
end Go.Proofs.YthbdgahmlggpmaaDoor.treeFinds
namespace Go.Proofs.YthbdgahmlggpmaaDoor
theorem treeFinds_holds : Rows.TreeFindsCardSaid := treeFinds.card
#print axioms treeFinds_holds
end Go.Proofs.YthbdgahmlggpmaaDoor
