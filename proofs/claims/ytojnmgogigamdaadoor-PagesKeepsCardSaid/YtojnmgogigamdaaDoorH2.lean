/- The contracts of pages.Bytes, pages.Put and pages.Cut (with spread and fold) over the array of 1024 bytes, for every list of pages that is read. -/
import Derived.Test.YtojnmgogigamdaaDoorQ4
import Derived.Test.YtojnmgogigamdaaDoorQ5
import Derived.Test.YtojnmgogigamdaaDoorQ5
import Derived.Laws.CopyOwn
import Derived.Lib.BufferWrite
import Derived.Deep.RegionLaw
namespace Go.Proofs.YtojnmgogigamdaaDoor.Q
open Go.RowKit Go.Proofs.YtojnmgogigamdaaDoorW.PrintWords Go.Proofs.YtojnmgogigamdaaDoorW.PrintLast Go.Proofs.YtojnmgogigamdaaDoorW.PrintMore
set_option linter.unusedVariables false
set_option linter.unusedSimpArgs false
/-! ### A block of bytes that is known whole -/
def flatC (fl : List Int) : Array Value := (nums .u8 fl).toArray
def zl : List Int := List.replicate 1024 0
theorem zero58 : ∀ w, (zeroValue 58).run Tryd.prog w = .ok (.agg (flatC zl)) w := by intro w; kernel_rfl
def spreadL : List S45 → List Int → List Int
  | [], f => f
  | p :: ps, f => spreadL ps (splice f (p.f0.toNat * 32) (bytesOf p.f1))
theorem flatC_size (fl : List Int) : (flatC fl).size = fl.length := by simp [flatC, nums]
theorem nums_splice (fl : List Int) (off : Nat) (xs : List Int) : splice (nums .u8 fl) off (nums .u8 xs) = nums .u8 (splice fl off xs) := by
  simp [splice, nums]
theorem nums_bytes (x : ByteArray) : Lib.byteCells x.data.toList = nums .u8 (bytesOf x) := by simp [Lib.byteCells, nums, bytesOf]
theorem setRow_block {w : World} {g k : Nat} {cs : Array Value} (h : k ≠ g) : (w.setRow g cs).heap[k]? = w.heap[k]? := setRow_other w g k cs h
theorem run_copy_str {P : Program} (w : World) (dT sT ty elem : TypeId) (g o dLen dCap : Nat) (s : ByteArray) (fl : List Int) (t : TypeId)
    (hu : P.underlying dT = some (.slice elem)) (hs : (P.info? elem).map (·.size) = some 1) (hg : w.heap[g]? = some (.cells (flatC fl) t (0, 0))) (hle : s.size ≤ dLen) (hfit : o + s.size ≤ fl.length) :
    ∃ w', (Builtin.copy_ #[dT, sT] ty #[.slice (some ⟨g, o, none⟩) dLen dCap, .string s]).run P w = .ok (goInt s.size) w' ∧
      w'.heap[g]? = some (.cells (flatC (splice fl o (bytesOf s))) t (0, 0)) ∧ (∀ k, k ≠ g → w'.heap[k]? = w.heap[k]?) ∧ w'.heap.size = w.heap.size ∧ (∀ B w0, B ≤ g → Below B w0 w → Below B w0 w') := by
  have hr := Lib.run_copy_row_string (P := P) w dT sT ty elem g o dLen dCap s (flatC fl) t hu hs hg hle (by rw [flatC_size]; exact hfit)
  refine ⟨_, hr, ?_, fun k hk => setRow_block hk, by simp [World.setRow], fun B w0 hB hb => below_setRow hb hB _⟩
  rw [setRow_heap w g _ _ t _ hg]
  congr 2
  have hb : (bytesOf s).length = s.size := bytesOf_length s
  simp [flatC, splice, hb, nums_bytes, nums]
theorem step_copy_str {P : Program} {ops : Array Oper} {o : Oper} {a : Act} {w : World} {K : Act → World → Prop} {Q : Exit → Act → World → Prop} {E : Prop} (hgd : o.guard = none) (d s : Operand) (dT sT : TypeId)
    (ho : o.op = .call { callee := .builtin .copy, args := #[d, s], argTypes := #[dT, sT] }) (elem : TypeId) (hu : P.underlying dT = some (.slice elem)) (hsz : (P.info? elem).map (·.size) = some 1)
    (g off dLen dCap : Nat) (hd : a.eval d = .slice (some ⟨g, off, none⟩) dLen dCap) (x : ByteArray) (hs : a.eval s = .string x) (fl : List Int) (t : TypeId) (hg : w.heap[g]? = some (.cells (flatC fl) t (0, 0)))
    (hle : x.size ≤ dLen) (hfit : off + x.size ≤ fl.length)
    (h : ∀ w', Aside0 (w'.heap[g]? = some (.cells (flatC (splice fl off (bytesOf x))) t (0, 0))) → Aside0 (∀ k, k ≠ g → w'.heap[k]? = w.heap[k]?) → Aside0 (w'.heap.size = w.heap.size) → Aside0 (∀ B w0, B ≤ g → Below B w0 w → Below B w0 w') → K (a.put o.dst (goInt x.size)) w') :
    if Region.wanted o (yielded ops a.tmps) = true then Oper.wp P o a w K Q else E := by
  have hw : Region.wanted o (yielded ops a.tmps) = true := by simp [Region.wanted, hgd]
  rw [if_pos hw]
  obtain ⟨w', hrun, h1, h2, h3, h4⟩ := run_copy_str (P := P) w dT sT o.type elem g off dLen dCap x fl t hu hsz hg hle hfit
  unfold Oper.wp
  simp [execOp, ho, resolve, invoke, builtin, hd, hs, hrun, Result.andThen]
  exact h w' ⟨h1⟩ ⟨h2⟩ ⟨h3⟩ ⟨h4⟩
theorem wpList_copy_str {P : Program} {ops : Array Oper} {rest : List Oper} {o : Oper} {a : Act} {w : World} {Q : Exit → Act → World → Prop} (hgd : o.guard = none) (d s : Operand) (dT sT : TypeId)
    (ho : o.op = .call { callee := .builtin .copy, args := #[d, s], argTypes := #[dT, sT] }) (elem : TypeId) (hu : P.underlying dT = some (.slice elem)) (hsz : (P.info? elem).map (·.size) = some 1)
    (g off dLen dCap : Nat) (hd : a.eval d = .slice (some ⟨g, off, none⟩) dLen dCap) (x : ByteArray) (hs : a.eval s = .string x) (fl : List Int) (t : TypeId) (hg : w.heap[g]? = some (.cells (flatC fl) t (0, 0)))
    (hle : x.size ≤ dLen) (hfit : off + x.size ≤ fl.length)
    (h : ∀ w', Aside0 (w'.heap[g]? = some (.cells (flatC (splice fl off (bytesOf x))) t (0, 0))) → Aside0 (∀ k, k ≠ g → w'.heap[k]? = w.heap[k]?) → Aside0 (w'.heap.size = w.heap.size) → Aside0 (∀ B w0, B ≤ g → Below B w0 w → Below B w0 w') → wpList P ops Q rest (a.put o.dst (goInt x.size)) w') :
    wpList P ops Q (o :: rest) a w := by
  refine wpList_plain hgd fun K hK => ?_
  obtain ⟨w', hrun, h1, h2, h3, h4⟩ := run_copy_str (P := P) w dT sT o.type elem g off dLen dCap x fl t hu hsz hg hle hfit
  unfold Oper.wp
  simp [execOp, ho, resolve, invoke, builtin, hd, hs, hrun, Result.andThen]
  exact hK _ _ (h w' ⟨h1⟩ ⟨h2⟩ ⟨h3⟩ ⟨h4⟩)
theorem sl58_l (g n : Nat) (h : n < 1024) : ∀ w, (Instr.sliceAt 58 (.pointer (some ⟨g, 0, none⟩)) (some (.int .i64 (n : Int))) none none).run Tryd.prog w = .ok (.slice (some ⟨g, n, none⟩) (1024 - n) (1024 - n)) w := by
  intro w
  have hl : Tryd.prog.arrayLen 58 = 1024 := by kernel_rfl
  have he : Tryd.prog.elem 58 = 5 := by kernel_rfl
  have hu : Tryd.prog.underlying 58 = some (.array (Tryd.prog.arrayLen 58) (Tryd.prog.elem 58)) := by rw [hl, he]; kernel_rfl
  have hz : ∀ w, (sizeOf 5).run Tryd.prog w = .ok 1 w := by intro w; kernel_rfl
  rw [run_sliceAt_array_l w 58 ⟨g, 0, none⟩ hu .i64 n (by omega) (by rw [hl]; omega), hl, he, hz]
  simp only [Result.andThen, slicedAt, Int.toNat_natCast, Nat.mul_one]
  rw [if_neg (by omega), add_plain]
theorem splice_length {α : Type} (L : List α) (off : Nat) (cs : List α) (h : off + cs.length ≤ L.length) : (splice L off cs).length = L.length := length_splice L off cs h
def fitL (l : List S45) : Prop := ∀ p ∈ l, 0 ≤ p.f0 ∧ p.f0 < 32 ∧ p.f1.size = 32
theorem spreadL_length : ∀ (l : List S45) (f : List Int), fitL l → f.length = 1024 → (spreadL l f).length = 1024
  | [], f, _, h => h
  | p :: ps, f, hf, h => by
    have hp := hf p (by simp)
    have hl : p.f0.toNat * 32 + (bytesOf p.f1).length ≤ f.length := by rw [bytesOf_length]; omega
    exact spreadL_length ps _ (fun q hq => hf q (by simp [hq])) (by rw [splice_length _ _ _ hl]; exact h)
theorem spreadL_append : ∀ (l m : List S45) (f : List Int), spreadL (l ++ m) f = spreadL m (spreadL l f)
  | [], m, f => rfl
  | p :: ps, m, f => spreadL_append ps m _
theorem take_snoc45 (l : List S45) (i : Nat) (h : i < l.length) : l.take (i + 1) = l.take i ++ [rd_T45 l (i : Int)] := by
  rw [List.take_succ_eq_append_getElem h]
  simp [rd_T45, List.getD_eq_getElem?_getD, List.getElem?_eq_getElem h]
theorem rd_T45_mem (l : List S45) (i : Nat) (h : i < l.length) : rd_T45 l (i : Int) ∈ l := by
  simp [rd_T45, List.getD_eq_getElem?_getD, List.getElem?_eq_getElem h]
theorem old_block {w0 w w' : World} {k : Nat} (h : w'.heap[k]? = w.heap[k]?) {o : Obj} (h2 : w.heap[k]? = some o) : w'.heap[k]? = some o := h.trans h2
theorem heap_set_other (w : World) (a : Addr) (v : Value) {k : Nat} (h : k ≠ a.block) : (w.setCell a v).heap[k]? = w.heap[k]? := heap_setCell_other w a k v h
theorem size_set (w : World) (a : Addr) (v : Value) : (w.setCell a v).heap.size = w.heap.size := by simp [World.setCell]
theorem cell_set_same {w : World} {g i : Nat} {x v : Value} (h : w.cell? ⟨g, i, none⟩ = some x) : (w.setCell ⟨g, i, none⟩ v).cell? ⟨g, i, none⟩ = some v := by
  simp only [World.cell?, World.setCell, Array.getElem?_modify] at h ⊢
  cases hb : w.heap[g]? with
  | none => simp [hb] at h
  | some o =>
    cases o <;> simp_all
    rename_i c _ _
    have hi : i < c.size := by
      rcases Nat.lt_or_ge i c.size with h1 | h1
      · exact h1
      · simp [Array.getElem?_eq_none h1] at h
    simp [hi]
theorem cell_set_off {w : World} {g i j : Nat} {v : Value} (h : j ≠ i) : (w.setCell ⟨g, i, none⟩ v).cell? ⟨g, j, none⟩ = w.cell? ⟨g, j, none⟩ := by
  simp only [World.cell?, World.setCell, Array.getElem?_modify]
  cases hb : w.heap[g]? with
  | none => simp
  | some o =>
    cases o <;> simp
    rw [Array.getElem?_setIfInBounds_ne (Ne.symm h)]
theorem below_set' {B : Nat} {w W : World} (h : Below B w W) {g j : Nat} {v : Value} (hg : B ≤ g) : Below B w (W.setCell ⟨g, j, none⟩ v) := h.setCell hg _

set_option maxHeartbeats 4000000 in
set_option maxRecDepth 100000 in
theorem spread.calls (A0 : Option Addr) (c0 : Nat) (l0 : List S45) (w : World) (hr0 : Kd.C k45 w A0 l0.length l0) (hc0 : l0.length ≤ c0) (hlen : l0.length ≤ 9223372036854775807) (hfit : fitL l0) :
    Calls Tryd.prog 32 #[.slice A0 l0.length c0] w fun e w' => e = .returned (.agg (flatC (spreadL l0 zl))) ∧ Below w.heap.size w w' := by
  have hz := zero58
  have HR0 := Aside0.mk hr0
  have HFIT := Aside0.mk hfit
  clear hr0 hfit
  have hu58 : Tryd.prog.underlying 58 = some (.array 1024 5) := by kernel_rfl
  go_enter Tryd.func32, Tryd.ntmps32
  go_wp2
  go_loopw [8] (fun v8 wr => ∃ i : Nat, i ≤ l0.length ∧ v8 = .int .i64 i ∧ Aside0 (wr.heap[w.heap.size]? = some (.cells (flatC zl) 58 (0, 0))) ∧ Aside0 (wr.heap[w.heap.size + 1]? = some (.cells (flatC (spreadL (l0.take i) zl)) 58 (0, 0))) ∧ Aside0 (Below w.heap.size w wr) ∧ Aside0 (w.heap.size + 1 < wr.heap.size)) (fun v8 _ => l0.length - (intOf v8).toNat)
  case atStart =>
    exact ⟨0, Nat.zero_le _, rfl, ⟨heap_alloc2_old _ _ _⟩, ⟨heap_alloc2_new _ _ _⟩, ⟨below_alloc (below_alloc (Below.refl _ _) _) _⟩, ⟨by simp⟩⟩
  case round =>
    obtain ⟨i, hi, rfl, HZ, HF, HB, HS⟩ := hrel
    by_cases hlt : i < l0.length
    · obtain ⟨ad, e, hx0, hx1⟩ := at_T45 HR0.out i (by omega) (by omega)
      cases e
      simp only [Int.toNat_natCast] at hx0 hx1
      replace hx0 := (HB.out.cell (World.block_lt_of_cell? w _ hx0)).trans hx0
      replace hx1 := (HB.out.cell (World.block_lt_of_cell? w _ hx1)).trans hx1
      have hp := HFIT.out _ (rd_T45_mem l0 i hlt)
      have HT := Aside0.mk (take_snoc45 l0 i hlt)
      have HL := Aside0.mk (spreadL_length (l0.take i) zl (fun q hq => HFIT.out q (List.mem_of_mem_take hq)) (by simp [zl]))
      generalize rd_T45 l0 (i : Int) = p at hx0 hx1 hp HT
      obtain ⟨h0, h1, h2⟩ := hp
      obtain ⟨q, hq⟩ : ∃ q : Nat, q = p.f0.toNat * 32 := ⟨_, rfl⟩
      have hmul : IntKind.i64.wrap (p.f0 * 32) = (q : Int) := by
        have := IntWalk.i64_in (p.f0 * 32) (by omega)
        rw [this]; omega
      have hq1 : q ≤ 992 := by omega
      have HQ := Aside0.mk hq
      have H2 := Aside0.mk h2
      clear hq h2
      have hsl := sl58_l (w.heap.size + 1) q (by omega)
      go_wp2_with (first | ((with_reducible refine gate_dst (N := 5) rfl ?_); (try (refine gate_guard (by rfl) ?_; dsimp only)); refine box_event ?hg (N := 5) ?hd (cs := #[.int .i64 0, .string (⟨#[]⟩ : ByteArray)]) (t := 45) ?hr ?_; (case hd => rfl); (case hg => rfl); (case hr => first | (go_simp; done) | (go_simp; rfl)); intro gb hg w6 hbox hb; have BK := Aside0.mk hbox; have HB1 := Aside0.mk hb; have HG := Aside0.mk hg; clear hbox hb hg; have hc0' := blk_cell BK.out 0; have hc1' := blk_cell BK.out 1; have hf0' := blk_frozen BK.out 0; have hf1' := blk_frozen BK.out 1))
      generalize hW : World.setCell _ _ _ = w7
      have d0 : w7.cell? ⟨gb, 0, none⟩ = some (.int .i64 p.f0) := by rw [← hW]; rw [cell_set_off (by decide)]; exact cell_set_same hc0'
      have d1 : w7.cell? ⟨gb, 1, none⟩ = some (.string p.f1) := by rw [← hW]; exact cell_set_same ((cell_set_off (by decide)).trans hc1')
      have O7 : Aside0 (∀ k, k < wr.heap.size → w7.heap[k]? = wr.heap[k]?) := ⟨fun k hk => by rw [← hW, heap_set_other _ _ _ (by have := HG.out; simp; omega), heap_set_other _ _ _ (by have := HG.out; simp; omega)]; exact HB1.out.block k hk⟩
      have S7 : Aside0 (wr.heap.size ≤ w7.heap.size) := ⟨by rw [← hW, size_set, size_set]; exact HB1.out.size⟩
      have B7 : Aside0 (Below w.heap.size w w7) := ⟨by
        rw [← hW]
        have hg1 : w.heap.size ≤ gb := by have := HG.out; have := HS.out; omega
        exact below_set' (below_set' (below_step HB.out HB1.out) hg1) hg1⟩
      have F7 : Aside0 (w7.heap[w.heap.size + 1]? = some (.cells (flatC (spreadL (l0.take i) zl)) 58 (0, 0))) := ⟨(O7.out _ HS.out).trans HF.out⟩
      have Z7 : Aside0 (w7.heap[w.heap.size]? = some (.cells (flatC zl) 58 (0, 0))) := ⟨(O7.out _ (by have := HS.out; omega)).trans HZ.out⟩
      clear hW hx0 hx1 hc0' hc1' hf0' hf1' BK HB1
      go_region_law (refine step_copy_str rfl (.tmp 15) (.tmp 17) 60 9 rfl 5 Tryd.underlying60 (by kernel_rfl) (w.heap.size + 1) q (1024 - q) (1024 - q) (by simp [Act.eval, Act.put]) p.f1 (by simp [Act.eval, Act.put]) (spreadL (l0.take i) zl) 58 F7.out (by have := H2.out; omega) (by have := H2.out; have := HL.out; omega) ?_; intro w8 hF8 hO8 hS8 hB8)
      all_goals
        go_wp2
        go_roundw
        case rel => exact ⟨i + 1, by omega, by go_num, ⟨(hO8.out _ (by omega)).trans Z7.out⟩, ⟨by rw [HT.out, spreadL_append]; simp only [spreadL]; rw [← HQ.out]; exact hF8.out⟩, ⟨hB8.out _ _ (by omega) (below_drew B7.out)⟩, ⟨by rw [hS8.out]; have := S7.out; have := HS.out; simp; omega⟩⟩
        case measure => simp [intOf]; omega
    · obtain rfl : i = l0.length := by omega
      have HF' : Aside0 (wr.heap[w.heap.size + 1]? = some (.cells (flatC (spreadL l0 zl)) 58 (0, 0))) := ⟨by have := HF.out; rwa [List.take_length] at this⟩
      have HL := Aside0.mk (spreadL_length l0 zl HFIT.out (by simp [zl]))
      have hi58 : Aside0 ((Tryd.prog.info? 58).map (·.size) = some (flatC (spreadL l0 zl)).size) := ⟨by rw [flatC_size, HL.out]; kernel_rfl⟩
      go_wp2_with (first | (refine wpList_load_row rfl 58 (.tmp 3) rfl (w.heap.size + 1) rfl 58 _ (0, 0) (.array 1024 5) HF'.out (by kernel_rfl) rfl hi58.out ?_) | (refine wpList_store_row rfl 58 (.tmp 2) (.tmp 20) rfl w.heap.size (flatC (spreadL l0 zl)) rfl rfl 58 _ HZ.out hi58.out (by rw [flatC_size, flatC_size, HL.out]; simp [zl]) ?hone ?_; (case hone => simp [flatC, nums, Value.oneCell'])))
      refine bodyPost_ret (v := .agg (flatC (spreadL l0 zl))) (results_cell_row rfl _ _ w.heap.size 58 (flatC (spreadL l0 zl)) (0, 0) (.array 1024 5) rfl ?h1 (by kernel_rfl) rfl hi58.out) rfl ⟨rfl, ?h2⟩
      case h1 => exact setRow_heap _ _ _ _ _ _ HZ.out
      case h2 => exact below_setRow HB.out (Nat.le_refl _) _
/-! ### fold -/
def seg (f : List Int) (n : Nat) : ByteArray := strOfNums ((f.drop (n * 32)).take 32)
def foldN (f : List Int) : Nat → List S45
  | 0 => []
  | n + 1 => if allZ (seg f n) = true then foldN f n else foldN f n ++ [(⟨(n : Int), seg f n⟩ : S45)]
theorem foldN_length (f : List Int) : ∀ n, (foldN f n).length ≤ n
  | 0 => Nat.le_refl _
  | n + 1 => by
    have := foldN_length f n
    unfold foldN
    split
    · omega
    · simp; omega
def foldL (f : List Int) : List S45 := foldN f 32
theorem sl58_lh (g n m : Nat) (h1 : n ≤ m) (h2 : m ≤ 1024) (h : n < 1024) : ∀ w, (Instr.sliceAt 58 (.pointer (some ⟨g, 0, none⟩)) (some (.int .i64 (n : Int))) (some (.int .i64 (m : Int))) none).run Tryd.prog w = .ok (.slice (some ⟨g, n, none⟩) (m - n) (1024 - n)) w := by
  intro w
  have hl : Tryd.prog.arrayLen 58 = 1024 := by kernel_rfl
  have he : Tryd.prog.elem 58 = 5 := by kernel_rfl
  have hu : Tryd.prog.underlying 58 = some (.array (Tryd.prog.arrayLen 58) (Tryd.prog.elem 58)) := by rw [hl, he]; kernel_rfl
  have hz : ∀ w, (sizeOf 5).run Tryd.prog w = .ok 1 w := by intro w; kernel_rfl
  rw [run_sliceAt_array_lh w 58 ⟨g, 0, none⟩ hu .i64 .i64 n m (by omega) (by omega) (by rw [hl]; omega), hl, he, hz]
  simp only [Result.andThen, slicedAt, Int.toNat_natCast, Nat.mul_one]
  rw [if_neg (by omega), add_plain]
theorem strOfNums_size (xs : List Int) : (strOfNums xs).size = xs.length := by simp [strOfNums, ByteArray.size]
theorem flat_cell {w : World} {g : Nat} {fl : List Int} {t : TypeId} (h : w.heap[g]? = some (.cells (flatC fl) t (0, 0))) (i : Nat) (hi : i < fl.length) : w.cell? ⟨g, i, none⟩ = some (.int .u8 (fl.getD i 0)) := by
  rw [blk_cell h]
  simp [flatC, nums, hi, List.getD_eq_getElem?_getD]
theorem conv_part (w : World) (g n m c : Nat) (fl : List Int) (t : TypeId) (h : w.heap[g]? = some (.cells (flatC fl) t (0, 0))) (hm : n + m ≤ fl.length) :
    (convert 60 9 (.slice (some ⟨g, n, none⟩) m c)).run Tryd.prog w = .ok (.string (strOfNums ((fl.drop n).take m))) w := by
  refine run_convert_bytes_arg w 60 5 Tryd.underlying60 Tryd.underlying5 g n m c _ (by rw [List.length_take, List.length_drop]; omega) (fun i hi => ?_) 9 Tryd.underlying9
  rw [flat_cell h (n + i) (by omega)]
  simp [List.getD_eq_getElem?_getD, hi]
set_option maxHeartbeats 4000000 in
set_option maxRecDepth 100000 in
theorem fold.calls (f : List Int) (hf : f.length = 1024) (w : World) :
    Calls Tryd.prog 34 #[.agg (flatC f)] w fun e w' => ∃ v0_ : Value, e = .returned v0_ ∧ Kd.R k45 45 w' w.heap.size (fun _ => True) v0_ (foldL f) ∧ Below w.heap.size w w' := by
  have HF := Aside0.mk hf
  clear hf
  go_enter Tryd.func34, Tryd.ntmps34
  go_wp2_with (first | ((with_reducible refine gate_dst (N := 1) rfl ?_); (try (refine gate_guard (by rfl) ?_; dsimp only)); refine box_event ?hg (N := 1) ?hd (cs := flatC f) (t := 58) ?hr ?_; (case hd => rfl); (case hg => rfl); (case hr => first | (go_simp; done) | (go_simp; rfl)); intro gb hg w6 hbox hb; have BK := Aside0.mk hbox; have HB1 := Aside0.mk hb; have HG := Aside0.mk hg; clear hbox hb hg))
  go_loopw [3, 6] (fun v3 v6 wr => ∃ i : Nat, i ≤ 32 ∧ v6 = .int .i64 i ∧ Aside0 (wr.heap[gb]? = some (.cells (flatC f) 58 (0, 0))) ∧ Aside0 (Kd.R k45 45 wr w.heap.size (fun k => k ≠ gb) v3 (foldN f i)) ∧ Aside0 (Below w.heap.size w wr)) (fun _ v6 _ => 32 - (intOf v6).toNat)
  case atStart => exact ⟨0, by omega, rfl, BK, ⟨Kd.R_nil _ _ _ _ _⟩, HB1⟩
  case round =>
    obtain ⟨i, hi, rfl, HK, HO, HB⟩ := hrel
    by_cases hlt : i < 32
    · obtain ⟨q, hq⟩ : ∃ q : Nat, q = i * 32 := ⟨_, rfl⟩
      obtain ⟨q2, hq2⟩ : ∃ q2 : Nat, q2 = i * 32 + 32 := ⟨_, rfl⟩
      have hmul : IntKind.i64.wrap ((i : Int) * 32) = (q : Int) := by
        have := IntWalk.i64_in ((i : Int) * 32) (by omega)
        rw [this]; omega
      have hmul' : ((i : Int) * 32) = (q : Int) := by omega
      have hmul2 : ((i : Int) + 1) * 32 = (q2 : Int) := by omega
      have hsl := sl58_lh gb q q2 (by omega) (by omega) (by omega)
      have hcv := conv_part wr gb q (q2 - q) (1024 - q) f 58 HK.out (by have := HF.out; omega)
      have hseg : strOfNums ((f.drop q).take (q2 - q)) = seg f i := by unfold seg; rw [← hq]; congr 2; omega
      rw [hseg] at hcv
      have HSZ : Aside0 ((seg f i).size ≤ 4096) := ⟨by unfold seg; rw [strOfNums_size, List.length_take]; omega⟩
      have HQ := Aside0.mk hq
      have HGB := Aside0.mk (blk_lt HK.out)
      have HLN := Aside0.mk (foldN_length f i)
      have HQ2 := Aside0.mk hq2
      have HFN : Aside0 (foldN f (i + 1) = if allZ (seg f i) = true then foldN f i else foldN f i ++ [(⟨(i : Int), seg f i⟩ : S45)]) := ⟨rfl⟩
      clear hq hq2 hseg
      generalize seg f i = s at hcv HSZ HFN
      generalize hb0 : allZ s = b
      have HN : Aside0 (pages_noughts.f s = some b) := ⟨by unfold pages_noughts.f; rw [if_pos HSZ.out, hb0]⟩
      rw [hb0] at HFN
      clear hb0
      cases b with
      | true =>
        go_wp2_with (go_at_call 28; refine (pages_noughts.calls _ _ _ HN.out).mono ?_; rintro e w' ⟨rfl, ⟨nd, rfl⟩⟩)
        go_roundw
        case rel => exact ⟨i + 1, by omega, by go_num, ⟨HK.out⟩, ⟨by rw [show foldN f (i + 1) = foldN f i by rw [HFN.out]; simp]; (with_reducible repeat (first | apply Kd.R_alloc | apply Kd.R_drewN | apply Kd.R_drew)); exact HO.out⟩, ⟨pw_below_drewN HB.out _⟩⟩
        case measure => simp [intOf]; omega
      | false =>
        go_wp2_with (first | (go_at_call 28; refine (pages_noughts.calls _ _ _ HN.out).mono ?_; rintro e w' ⟨rfl, ⟨nd, rfl⟩⟩) | ((with_reducible refine gate_builtin (b := .append) (xs := #[.tmp 19, .tmp 23]) rfl ?_); at_builtin; refine Kd.R_append k45 (w0 := w) w.heap.size rfl (.tmp 19) (.tmp 23) 22 45 (.agg #[(.int .i64 0), (.string ⟨#[]⟩)]) 24 rfl Tryd.underlying22 info45 rfl (by decide) (by omega) u3 (foldN f i) (⟨(i : Int), s⟩ : S45) [.int .i64 (i : Int), .string s] (fun k => k ≠ gb) (fun _ => False) rfl rfl ?aP (fun _ hk => hk.elim) ?aF ?aO ?aB ?aS ?aL ?_; (case aP => exact k45_mkM _ _ _ (⟨(i : Int), s⟩ : S45)); (case aB => exact (by repeat (first | (with_reducible first | exact HB.out | apply below_alloc | apply pw_below_drewN | apply below_drew1) | exact HB.out))); (case aF => exact (fun k hk => by have := HGB.out; simp at hk; omega)); (case aO => exact (by (with_reducible repeat (first | apply Kd.R_alloc | apply Kd.R_drewN | apply Kd.R_drew)); exact HO.out)); (case aS => exact (below_size (by repeat (first | (with_reducible first | exact HB.out | apply below_alloc | apply pw_below_drewN | apply below_drew1) | exact HB.out)))); (case aL => have := HLN.out; omega); intro v1 w1 ho hb hg hat; have HO1 := Aside0.mk ho; have HB1' := Aside0.mk hb; have HG1 := Aside0.mk hg; clear ho hb hg hat))
        go_roundw
        case rel => exact ⟨i + 1, by omega, by go_num, ⟨by refine (HG1.out.block gb (by have := HGB.out; simp; omega) (fun e => HO.out.1 gb e.symm rfl)).trans ?_; exact HK.out⟩, ⟨by rw [show foldN f (i + 1) = foldN f i ++ [(⟨(i : Int), s⟩ : S45)] by rw [HFN.out]; simp]; exact HO1.out⟩, HB1'⟩
        case measure => simp [intOf]; omega
    · obtain rfl : i = 32 := by omega
      go_wp2
      go_ret
      exact ⟨_, rfl, Kd.R_mono HO.out (fun _ _ => trivial), HB.out⟩
/-! ### What Right says -/
theorem right_fit (l : List S45) (hl : l.length ≤ 9223372036854775807) : ∀ (k : Nat) (last i : Int), -1 ≤ last → 0 ≤ i → pages_Right.l0 k last l (l.length : Int) i = some true → ∀ j : Nat, i ≤ j → j < l.length → 0 ≤ (rd_T45 l j).f0 ∧ (rd_T45 l j).f0 < 32 ∧ (rd_T45 l j).f1.size = 32 := by
  intro k
  induction k with
  | zero => intro last i _ _ h; simp [pages_Right.l0] at h
  | succ k ih =>
    intro last i hlast hi h j hij hj
    simp only [pages_Right.l0] at h
    rw [if_pos (by omega), if_pos hi, if_pos (by omega)] at h
    by_cases h1 : (rd_T45 l i).f0 ≤ last
    · rw [if_pos h1] at h; simp at h
    rw [if_neg h1] at h
    by_cases h2 : (rd_T45 l i).f0 ≥ 32
    · rw [if_pos h2] at h; simp at h
    rw [if_neg h2] at h
    by_cases h3 : ((rd_T45 l i).f1.size : Int) = 32
    · rw [if_pos h3] at h
      obtain ⟨b, hb, h⟩ := Option.bind_eq_some_iff.1 h
      by_cases h4 : b = true
      · rw [if_pos h4] at h; simp at h
      rw [if_neg h4] at h
      by_cases he : (j : Int) = i
      · subst he
        exact ⟨by omega, by omega, by omega⟩
      · have hw : wrap64 (i + 1) = i + 1 := by unfold wrap64; omega
        rw [hw] at h
        exact ih _ (i + 1) (by omega) (by omega) h j (by omega) hj
    · rw [if_neg h3] at h; simp at h
theorem rd_get (l : List S45) {p : S45} (h : p ∈ l) : ∃ j : Nat, j < l.length ∧ rd_T45 l j = p := by
  obtain ⟨j, hj, rfl⟩ := List.mem_iff_getElem.1 h
  exact ⟨j, hj, by simp [rd_T45, List.getD_eq_getElem?_getD, List.getElem?_eq_getElem hj]⟩
theorem fit_of_right {l : List S45} (hl : l.length ≤ 9223372036854775807) {k : Nat} (h : pages_Right.f k l = some true) : fitL l := by
  intro p hp
  obtain ⟨j, hj, rfl⟩ := rd_get l hp
  exact right_fit l hl k (-1) 0 (by omega) (by omega) h j (by omega) hj

def pages_Bytes.f (k : Nat) (l0 : List S45) (a1 a2 : Int) : Option (ByteArray × Int) :=
  (pages_Right.f k l0).bind fun r => if r = true then ((pages_in.f a1 a2).bind fun b => if b = true then some (strOfNums (((spreadL l0 zl).drop a1.toNat).take a2.toNat), 0) else some (⟨#[]⟩, 1)) else some (⟨#[]⟩, 1)
def pages_Put.f (k : Nat) (l0 : List S45) (a1 : Int) (a2 : ByteArray) : Option (List S45 × Int) :=
  (pages_Right.f k l0).bind fun r => if r = true then ((pages_in.f a1 (a2.size : Int)).bind fun b => if b = true then some (foldL (splice (spreadL l0 zl) a1.toNat (bytesOf a2)), 0) else some ([], 1)) else some ([], 1)
def pages_Cut.f (k : Nat) (l0 : List S45) (a1 : Int) : Option (List S45 × Int) :=
  (pages_Right.f k l0).bind fun r => if r = true then (if a1 < 0 then some ([], 1) else some (foldL ((spreadL l0 zl).take (min a1.toNat 1024) ++ List.replicate (1024 - min a1.toNat 1024) 0), 0)) else some ([], 1)
theorem pages_Bytes.mono (l0 : List S45) (a1 a2 : Int) (k : Nat) : LeO (pages_Bytes.f k l0 a1 a2) (pages_Bytes.f (k + 1) l0 a1 a2) := LeO.bind (pages_Right.mono l0 k) (fun _ => LeO.refl _)
theorem pages_Put.mono (l0 : List S45) (a1 : Int) (a2 : ByteArray) (k : Nat) : LeO (pages_Put.f k l0 a1 a2) (pages_Put.f (k + 1) l0 a1 a2) := LeO.bind (pages_Right.mono l0 k) (fun _ => LeO.refl _)
theorem pages_Cut.mono (l0 : List S45) (a1 : Int) (k : Nat) : LeO (pages_Cut.f k l0 a1) (pages_Cut.f (k + 1) l0 a1) := LeO.bind (pages_Right.mono l0 k) (fun _ => LeO.refl _)
theorem in_bounds {a b : Int} (h : pages_in.f a b = some true) : 0 ≤ a ∧ 0 ≤ b ∧ a ≤ 1024 ∧ b ≤ 1024 - a := by
  unfold pages_in.f at h
  by_cases h1 : a ≥ 0
  · by_cases h2 : b ≥ 0
    · by_cases h3 : a ≤ 1024
      · rw [if_pos h1, if_pos h2, if_pos h3] at h
        have hw : wrap64 (1024 - a) = 1024 - a := by unfold wrap64; omega
        rw [hw] at h
        simp at h
        omega
      · rw [if_pos h1, if_pos h2, if_neg h3] at h; simp at h
    · rw [if_pos h1, if_neg h2] at h; simp at h
  · rw [if_neg h1] at h; simp at h
theorem readsrow_len {α : Type} {R : α → List Value → Prop} {size : Nat} {w : World} {A : Option Addr} {n : Nat} {ps : List α} (h : ReadsRow R size w A n ps) : n ≤ 9223372036854775807 := h.2.1

theorem cut_part (g n m : Nat) (h1 : n ≤ m) (h2 : m ≤ 1024) : ∃ A' : Addr, (∀ w, (Instr.sliceAt 58 (.pointer (some ⟨g, 0, none⟩)) (some (.int .i64 (n : Int))) (some (.int .i64 (m : Int))) none).run Tryd.prog w = .ok (.slice (some A') (m - n) (1024 - n)) w) ∧
    ∀ (w : World) (fl : List Int) (t : TypeId), w.heap[g]? = some (.cells (flatC fl) t (0, 0)) → fl.length = 1024 → (convert 60 9 (.slice (some A') (m - n) (1024 - n))).run Tryd.prog w = .ok (.string (strOfNums ((fl.drop n).take (m - n)))) w := by
  by_cases h : n < 1024
  · exact ⟨⟨g, n, none⟩, sl58_lh g n m h1 h2 h, fun w fl t hb hl => conv_part w g n (m - n) (1024 - n) fl t hb (by omega)⟩
  · obtain rfl : n = 1024 := by omega
    obtain rfl : m = 1024 := by omega
    have hl : Tryd.prog.arrayLen 58 = 1024 := by kernel_rfl
    have he : Tryd.prog.elem 58 = 5 := by kernel_rfl
    have hu : Tryd.prog.underlying 58 = some (.array (Tryd.prog.arrayLen 58) (Tryd.prog.elem 58)) := by rw [hl, he]; kernel_rfl
    have hz : ∀ w, (sizeOf 5).run Tryd.prog w = .ok 1 w := by intro w; kernel_rfl
    refine ⟨⟨g, 0, none⟩, fun w => ?_, fun w fl t hb hlen => ?_⟩
    · rw [run_sliceAt_array_lh w 58 ⟨g, 0, none⟩ hu .i64 .i64 ((1024 : Nat) : Int) ((1024 : Nat) : Int) (by omega) (by omega) (by rw [hl]; omega), hl, he, hz]
      rfl
    · refine run_convert_bytes_arg w 60 5 Tryd.underlying60 Tryd.underlying5 g 0 (1024 - 1024) (1024 - 1024) _ (by rw [List.length_take, List.length_drop]; omega) (fun i hi => by omega) 9 Tryd.underlying9

set_option maxHeartbeats 4000000 in
set_option maxRecDepth 100000 in
theorem pages_Bytes.calls (k : Nat) (A0 : Option Addr) (c0 : Nat) (l0 : List S45) (a1 a2 : Int) (r1 : ByteArray) (r2 : Int) (w : World) (hr0 : Kd.C k45 w A0 l0.length l0) (hc0 : l0.length ≤ c0) (h : pages_Bytes.f k l0 a1 a2 = some (r1, r2)) :
    Calls Tryd.prog 14 #[.slice A0 l0.length c0, .int .i64 a1, .int .i64 a2] w fun e w' => e = .returned (.tuple #[.string r1, .int .i64 r2]) ∧ Below w.heap.size w w' := by
  have HLEN := Aside0.mk (readsrow_len hr0)
  have HR0 := Aside0.mk hr0
  have HC0 := Aside0.mk hc0
  clear hr0 hc0
  unfold pages_Bytes.f at h
  obtain ⟨b, hb, h⟩ := Option.bind_eq_some_iff.1 h
  have HA := Aside0.mk hb
  cases b with
  | false =>
    simp only [Bool.false_eq_true, if_false, Option.some.injEq, Prod.mk.injEq] at h
    obtain ⟨rfl, rfl⟩ := h
    clear hb
    go_enter Tryd.func14, Tryd.ntmps14
    go_wp2_with (go_at_call 11; refine (pages_Right.calls k _ _ l0 false _ HR0.out HC0.out HA.out).mono ?_; rintro e w1 ⟨rfl, hb1⟩)
    go_ret2
    exact ⟨rfl, hb1⟩
  | true =>
    have HFIT := Aside0.mk (fit_of_right HLEN.out hb)
    clear hb
    simp only [if_true] at h
    obtain ⟨b2, hb2, h⟩ := Option.bind_eq_some_iff.1 h
    have HA2 := Aside0.mk hb2
    cases b2 with
    | false =>
      simp only [Bool.false_eq_true, if_false, Option.some.injEq, Prod.mk.injEq] at h
      obtain ⟨rfl, rfl⟩ := h
      clear hb2
      go_enter Tryd.func14, Tryd.ntmps14
      go_wp2_with (first | (go_at_call 11; refine (pages_Right.calls k _ _ l0 true _ HR0.out HC0.out HA.out).mono ?_; rintro e w1 ⟨rfl, hb1⟩) | (go_at_call 31; refine (pages_in.calls _ _ false _ HA2.out).mono ?_; rintro e w' ⟨rfl, ⟨nd, rfl⟩⟩))
      go_ret2
      exact ⟨rfl, pw_below_drewN hb1 _⟩
    | true =>
      simp only [if_true, Option.some.injEq, Prod.mk.injEq] at h
      obtain ⟨rfl, rfl⟩ := h
      have hbd := in_bounds hb2
      clear hb2
      obtain ⟨p, rfl⟩ := Int.eq_ofNat_of_zero_le hbd.1
      obtain ⟨q, rfl⟩ := Int.eq_ofNat_of_zero_le hbd.2.1
      simp only [Int.toNat_natCast]
      have hp : p ≤ 1024 := by omega
      have hq : p + q ≤ 1024 := by omega
      clear hbd
      have HSL := Aside0.mk (spreadL_length l0 zl HFIT.out (by simp [zl]))
      generalize hFL : spreadL l0 zl = fl at HSL
      have HFL := Aside0.mk hFL
      clear hFL
      obtain ⟨s, hs⟩ : ∃ s : Nat, s = p + q := ⟨_, rfl⟩
      have hsum : IntKind.i64.wrap ((p : Int) + (q : Int)) = (s : Int) := by
        have := IntWalk.i64_in ((p : Int) + (q : Int)) (by omega)
        rw [this]; omega
      have hsum' : (p : Int) + (q : Int) = (s : Int) := by omega
      obtain rfl : q = s - p := by omega
      have hps : p ≤ s := by omega
      have hs1 : s ≤ 1024 := by omega
      clear hs hq
      have hz := zero58
      have hi58 : Aside0 ((Tryd.prog.info? 58).map (·.size) = some (flatC fl).size) := ⟨by rw [flatC_size, HSL.out]; kernel_rfl⟩
      go_enter Tryd.func14, Tryd.ntmps14
      go_wp2_with (first | (go_at_call 11; refine (pages_Right.calls k _ _ l0 true _ HR0.out HC0.out HA.out).mono ?_; rintro e w1 ⟨rfl, hb1⟩) | (go_at_call 31; refine (pages_in.calls _ _ true _ HA2.out).mono ?_; rintro e w' ⟨rfl, ⟨nd, rfl⟩⟩) | (go_at_call 32; refine (spread.calls _ _ l0 _ (Kd.C_below HR0.out (pw_below_drewN hb1 _)) HC0.out HLEN.out HFIT.out).mono ?_; rintro e w2 ⟨rfl, hb2⟩; rw [HFL.out]) | ((with_reducible refine gate_dst (N := 8) rfl ?_); (try (refine gate_guard (by rfl) ?_; dsimp only)); refine box_event ?hg (N := 8) ?hd (cs := flatC zl) (t := 58) ?hr ?_; (case hd => rfl); (case hg => rfl); (case hr => first | (go_simp; done) | (go_simp; rfl)); intro gb hg w6 hbox hb; have BK := Aside0.mk hbox; have HB1 := Aside0.mk hb; have HG := Aside0.mk hg; clear hbox hb hg; obtain ⟨A', hcut, hconv⟩ := cut_part gb p s hps hs1; have HCV := Aside0.mk hconv; clear hconv) | (refine wpList_store_row rfl 58 (.tmp 8) (.tmp 19) rfl gb (flatC fl) rfl rfl 58 _ BK.out hi58.out (by rw [flatC_size, flatC_size, HSL.out]; simp [zl]) ?hone ?_; (case hone => simp [flatC, nums, Value.oneCell']); have hcv := HCV.out (w6.setRow gb (flatC fl)) fl 58 (setRow_heap _ _ _ _ _ _ BK.out) HSL.out))
      go_ret2
      exact ⟨rfl, below_setRow (below_step (below_step (pw_below_drewN hb1 nd) hb2) HB1.out) (by have := HG.out; have := hb1.size; have := hb2.size; simp at this; omega) _⟩
theorem cut_from (g n : Nat) (h2 : n ≤ 1024) : ∃ A' : Addr, (∀ w, (Instr.sliceAt 58 (.pointer (some ⟨g, 0, none⟩)) (some (.int .i64 (n : Int))) none none).run Tryd.prog w = .ok (.slice (some A') (1024 - n) (1024 - n)) w) ∧ (n < 1024 → A' = ⟨g, n, none⟩) := by
  by_cases h : n < 1024
  · exact ⟨⟨g, n, none⟩, sl58_l g n h, fun _ => rfl⟩
  · obtain rfl : n = 1024 := by omega
    have hl : Tryd.prog.arrayLen 58 = 1024 := by kernel_rfl
    have he : Tryd.prog.elem 58 = 5 := by kernel_rfl
    have hu : Tryd.prog.underlying 58 = some (.array (Tryd.prog.arrayLen 58) (Tryd.prog.elem 58)) := by rw [hl, he]; kernel_rfl
    have hz : ∀ w, (sizeOf 5).run Tryd.prog w = .ok 1 w := by intro w; kernel_rfl
    refine ⟨⟨g, 0, none⟩, fun w => ?_, fun h => by omega⟩
    rw [run_sliceAt_array_l w 58 ⟨g, 0, none⟩ hu .i64 ((1024 : Nat) : Int) (by omega) (by rw [hl]; omega), hl, he, hz]
    rfl
/-- copy of a string into an array's rest, wherever that rest begins. -/
theorem wpList_copy_at {P : Program} {ops : Array Oper} {rest : List Oper} {o : Oper} {a : Act} {w : World} {Q : Exit → Act → World → Prop} (hgd : o.guard = none) (d s : Operand) (dT sT : TypeId)
    (ho : o.op = .call { callee := .builtin .copy, args := #[d, s], argTypes := #[dT, sT] }) (elem : TypeId) (hu : P.underlying dT = some (.slice elem)) (hsz : (P.info? elem).map (·.size) = some 1)
    (g off dLen dCap : Nat) (A : Addr) (hA : 0 < dLen → A = ⟨g, off, none⟩) (hd : a.eval d = .slice (some A) dLen dCap) (x : ByteArray) (hs : a.eval s = .string x) (fl : List Int) (t : TypeId) (hg : w.heap[g]? = some (.cells (flatC fl) t (0, 0)))
    (hle : x.size ≤ dLen) (hfit : off + x.size ≤ fl.length)
    (h : ∀ w', Aside0 (w'.heap[g]? = some (.cells (flatC (splice fl off (bytesOf x))) t (0, 0))) → Aside0 (∀ k, k ≠ g → w'.heap[k]? = w.heap[k]?) → Aside0 (w'.heap.size = w.heap.size) → Aside0 (∀ B w0, B ≤ g → Below B w0 w → Below B w0 w') → wpList P ops Q rest (a.put o.dst (goInt x.size)) w') :
    wpList P ops Q (o :: rest) a w := by
  by_cases h0 : 0 < dLen
  · obtain rfl := hA h0
    exact wpList_copy_str hgd d s dT sT ho elem hu hsz g off dLen dCap hd x hs fl t hg hle hfit h
  · have hx : x.size = 0 := by omega
    refine wpList_plain hgd fun K hK => ?_
    have hrun := Lib.run_copy_empty_string (P := P) w dT sT o.type elem (some A) dLen dCap x hu (by rw [hsz]; rfl) hx
    unfold Oper.wp
    simp [execOp, ho, resolve, invoke, builtin, hd, hs, hrun, Result.andThen]
    have hb : bytesOf x = [] := List.eq_nil_of_length_eq_zero (by rw [bytesOf_length]; exact hx)
    have := h w ⟨by rw [hb]; simpa [splice] using hg⟩ ⟨fun _ _ => rfl⟩ ⟨rfl⟩ ⟨fun _ _ _ hb => hb⟩
    rw [hx] at this
    exact hK _ _ this

set_option maxHeartbeats 4000000 in
set_option maxRecDepth 100000 in
theorem pages_Put.calls (k : Nat) (A0 : Option Addr) (c0 : Nat) (l0 : List S45) (a1 : Int) (a2 : ByteArray) (r1 : List S45) (r2 : Int) (w : World) (hr0 : Kd.C k45 w A0 l0.length l0) (hc0 : l0.length ≤ c0) (h : pages_Put.f k l0 a1 a2 = some (r1, r2)) :
    Calls Tryd.prog 18 #[.slice A0 l0.length c0, .int .i64 a1, .string a2] w fun e w' => ∃ v0_ : Value, e = .returned (.tuple #[v0_, .int .i64 r2]) ∧ Kd.R k45 45 w' w.heap.size (fun _ => True) v0_ r1 ∧ Below w.heap.size w w' := by
  have HLEN := Aside0.mk (readsrow_len hr0)
  have HR0 := Aside0.mk hr0
  have HC0 := Aside0.mk hc0
  clear hr0 hc0
  unfold pages_Put.f at h
  obtain ⟨b, hb, h⟩ := Option.bind_eq_some_iff.1 h
  have HA := Aside0.mk hb
  cases b with
  | false =>
    simp only [Bool.false_eq_true, if_false, Option.some.injEq, Prod.mk.injEq] at h
    obtain ⟨rfl, rfl⟩ := h
    clear hb
    go_enter Tryd.func18, Tryd.ntmps18
    go_wp2_with (go_at_call 11; refine (pages_Right.calls k _ _ l0 false _ HR0.out HC0.out HA.out).mono ?_; rintro e w1 ⟨rfl, hb1⟩)
    go_ret2
    exact ⟨_, rfl, Kd.R_nil _ _ _ _ _, hb1⟩
  | true =>
    have HFIT := Aside0.mk (fit_of_right HLEN.out hb)
    clear hb
    simp only [if_true] at h
    obtain ⟨b2, hb2, h⟩ := Option.bind_eq_some_iff.1 h
    have HA2 := Aside0.mk hb2
    cases b2 with
    | false =>
      simp only [Bool.false_eq_true, if_false, Option.some.injEq, Prod.mk.injEq] at h
      obtain ⟨rfl, rfl⟩ := h
      clear hb2
      go_enter Tryd.func18, Tryd.ntmps18
      go_wp2_with (first | (go_at_call 11; refine (pages_Right.calls k _ _ l0 true _ HR0.out HC0.out HA.out).mono ?_; rintro e w1 ⟨rfl, hb1⟩) | (go_at_call 31; refine (pages_in.calls _ _ false _ HA2.out).mono ?_; rintro e w' ⟨rfl, ⟨nd, rfl⟩⟩))
      go_ret2
      exact ⟨_, rfl, Kd.R_nil _ _ _ _ _, pw_below_drewN hb1 _⟩
    | true =>
      simp only [if_true, Option.some.injEq, Prod.mk.injEq] at h
      obtain ⟨rfl, rfl⟩ := h
      have hbd := in_bounds hb2
      clear hb2
      obtain ⟨p, rfl⟩ := Int.eq_ofNat_of_zero_le hbd.1
      simp only [Int.toNat_natCast]
      have hp : p ≤ 1024 := by omega
      have HQ := Aside0.mk (show p + a2.size ≤ 1024 by omega)
      clear hbd
      have HSL := Aside0.mk (spreadL_length l0 zl HFIT.out (by simp [zl]))
      generalize hFL : spreadL l0 zl = fl at HSL
      have HFL := Aside0.mk hFL
      clear hFL
      have HSP := Aside0.mk (splice_length fl p (bytesOf a2) (by rw [bytesOf_length, HSL.out]; exact HQ.out))
      generalize hF2 : splice fl p (bytesOf a2) = f2 at HSP
      have HF2 := Aside0.mk hF2
      clear hF2
      have hz := zero58
      have hi58 : Aside0 ((Tryd.prog.info? 58).map (·.size) = some (flatC fl).size) := ⟨by rw [flatC_size, HSL.out]; kernel_rfl⟩
      have hi58' : Aside0 ((Tryd.prog.info? 58).map (·.size) = some (flatC f2).size) := ⟨by rw [flatC_size, HSP.out, HSL.out]; kernel_rfl⟩
      go_enter Tryd.func18, Tryd.ntmps18
      go_wp2_with (first | (go_at_call 11; refine (pages_Right.calls k _ _ l0 true _ HR0.out HC0.out HA.out).mono ?_; rintro e w1 ⟨rfl, hb1⟩) | (go_at_call 31; refine (pages_in.calls _ _ true _ HA2.out).mono ?_; rintro e w' ⟨rfl, ⟨nd, rfl⟩⟩) | (go_at_call 32; refine (spread.calls _ _ l0 _ (Kd.C_below HR0.out (pw_below_drewN hb1 _)) HC0.out HLEN.out HFIT.out).mono ?_; rintro e w2 ⟨rfl, hb2⟩; rw [HFL.out]) | ((with_reducible refine gate_dst (N := 8) rfl ?_); (try (refine gate_guard (by rfl) ?_; dsimp only)); refine box_event ?hg (N := 8) ?hd (cs := flatC zl) (t := 58) ?hr ?_; (case hd => rfl); (case hg => rfl); (case hr => first | (go_simp; done) | (go_simp; rfl)); intro gb hg w6 hbox hb; have BK := Aside0.mk hbox; have HB1 := Aside0.mk hb; have HG := Aside0.mk hg; clear hbox hb hg; obtain ⟨A', hcut, hconv⟩ := cut_from gb p hp; have HCV := Aside0.mk hconv; clear hconv) | (refine wpList_store_row rfl 58 (.tmp 8) (.tmp 20) rfl gb (flatC fl) rfl rfl 58 _ BK.out hi58.out (by rw [flatC_size, flatC_size, HSL.out]; simp [zl]) ?hone ?_; (case hone => simp [flatC, nums, Value.oneCell'])) | ((with_reducible refine gate_builtin (b := .copy) (xs := #[.tmp 22, .tmp 23]) rfl ?_); refine wpList_copy_at rfl (.tmp 22) (.tmp 23) 60 9 rfl 5 Tryd.underlying60 (by kernel_rfl) gb p (1024 - p) (1024 - p) A' (fun h => HCV.out (by omega)) rfl a2 rfl fl 58 (setRow_heap _ _ _ _ _ _ BK.out) (by have := HQ.out; omega) (by have := HQ.out; rw [HSL.out]; exact this) ?_; intro w8 hF8 hO8 hS8 hB8; rw [HF2.out] at hF8) | (refine wpList_load_row rfl 58 (.tmp 8) rfl gb rfl 58 _ (0, 0) (.array 1024 5) hF8.out (by kernel_rfl) rfl hi58'.out ?_) | (go_at_call 34; refine (fold.calls f2 (by rw [HSP.out, HSL.out]) _).mono ?_; rintro e w9 ⟨v9, rfl, ho9, hb9⟩))
      have hB8' : Below w.heap.size w w8 := hB8.out _ _ (by have := HG.out; have := hb1.size; have := hb2.size; simp at this; omega) (below_setRow (below_step (below_step (pw_below_drewN hb1 nd) hb2) HB1.out) (by have := HG.out; have := hb1.size; have := hb2.size; simp at this; omega) _)
      go_ret2
      exact ⟨v9, rfl, Kd.R_lower ho9 (below_size hB8'), below_step hB8' hb9⟩
theorem cut_from' (g n : Nat) (i : Int) (hi : i = (n : Int)) (h2 : n ≤ 1024) : ∃ A' : Addr, (∀ w, (Instr.sliceAt 58 (.pointer (some ⟨g, 0, none⟩)) (some (.int .i64 i)) none none).run Tryd.prog w = .ok (.slice (some A') (1024 - n) (1024 - n)) w) ∧ (n < 1024 → A' = ⟨g, n, none⟩) := by
  subst hi
  exact cut_from g n h2
theorem zeroCells_u8 (n : Nat) : (Builtin.zeroCells #[Value.int .u8 0] n).toList = nums .u8 (List.replicate n 0) := by
  apply List.ext_getElem
  · simp [Builtin.zeroCells, nums]
  · intro i h1 h2
    simp [Builtin.zeroCells, nums, Nat.mod_one]
/-- clear of an array's rest, wherever that rest begins. -/
theorem wpList_clear_at {ops : Array Oper} {rest : List Oper} {o : Oper} {a : Act} {w : World} {Q : Exit → Act → World → Prop} (hgd : o.guard = none) (d : Operand)
    (ho : o.op = .call { callee := .builtin .clear, args := #[d], argTypes := #[60] }) 
    (g off n c : Nat) (A : Addr) (hA : 0 < n → A = ⟨g, off, none⟩) (hd : a.eval d = .slice (some A) n c) (fl : List Int) (t : TypeId) (hg : w.heap[g]? = some (.cells (flatC fl) t (0, 0))) (hfit : off + n = fl.length)
    (h : ∀ w', Aside0 (w'.heap[g]? = some (.cells (flatC (fl.take off ++ List.replicate n 0)) t (0, 0))) → Aside0 (w'.heap.size = w.heap.size) → Aside0 (∀ B w0, B ≤ g → Below B w0 w → Below B w0 w') → wpList Tryd.prog ops Q rest (a.put o.dst (.tuple #[])) w') :
    wpList Tryd.prog ops Q (o :: rest) a w := by
  refine wpList_plain hgd fun K hK => ?_
  have hz : ∀ w, (zeroValue 5).run Tryd.prog w = .ok (.int .u8 0) w := by intro w; kernel_rfl
  have hu := Tryd.underlying60
  by_cases h0 : 0 < n
  · obtain rfl := hA h0
    obtain ⟨m, rfl⟩ : ∃ m, n = m + 1 := ⟨n - 1, by omega⟩
    have hst := run_storeCells_at Tryd.prog g off t (nums .u8 (List.replicate (m + 1) 0)) 0 (flatC fl) w hg (by rw [nums_length, List.length_replicate, flatC_size]; omega) (by intro v hv; simp only [nums, List.mem_map] at hv; obtain ⟨_, _, rfl⟩ := hv; rfl)
    have hrun : (Builtin.clear_ #[60] o.type #[.slice (some ⟨g, off, none⟩) (m + 1) c]).run Tryd.prog w = .ok (.tuple #[]) (w.setRow g ((flatC fl).toList.take (off + 0) ++ nums .u8 (List.replicate (m + 1) 0) ++ (flatC fl).toList.drop (off + 0 + (nums .u8 (List.replicate (m + 1) 0)).length)).toArray) := by
      have hc : (Value.int .u8 0).cells = #[Value.int .u8 0] := rfl
      simp only [Builtin.clear_, Sem.run_bind, run_underlying hu, hz, Result.andThen_ok, hc, zeroCells_u8, hst, Sem.run_pure, List.getElem?_toArray, List.getElem?_cons_zero]
    unfold Oper.wp
    simp only [execOp, ho, resolve, invoke, builtin, hd, List.map_toArray, List.map_cons, List.map_nil, Sem.run_bind, Sem.run_pure, Result.andThen_ok, hrun]
    refine hK _ _ (h _ ⟨?_⟩ ⟨by simp [World.setRow]⟩ ⟨fun B w0 hB hb => below_setRow hb hB _⟩)
    rw [setRow_heap w g _ _ t _ hg]
    congr 2
    have e1 : (flatC fl).toList = nums .u8 fl := by simp [flatC]
    have hd0 : List.drop (off + (m + 1)) (nums .u8 fl) = [] := List.drop_eq_nil_of_le (by rw [nums_length]; omega)
    simp only [e1, Nat.add_zero, nums_length, List.length_replicate, hd0, List.append_nil]
    unfold flatC
    rw [nums_append]
    simp [nums, List.map_take]
  · obtain rfl : n = 0 := by omega
    have hrun : (Builtin.clear_ #[60] o.type #[.slice (some A) 0 c]).run Tryd.prog w = .ok (.tuple #[]) w := by
      simp only [Builtin.clear_, Sem.run_bind, run_underlying hu, Result.andThen_ok, Sem.run_pure, List.getElem?_toArray, List.getElem?_cons_zero]
    unfold Oper.wp
    simp only [execOp, ho, resolve, invoke, builtin, hd, List.map_toArray, List.map_cons, List.map_nil, Sem.run_bind, Sem.run_pure, Result.andThen_ok, hrun]
    refine hK _ _ (h _ ⟨?_⟩ ⟨rfl⟩ ⟨fun _ _ _ hb => hb⟩)
    rw [List.take_of_length_le (by omega)]
    simpa using hg
set_option maxHeartbeats 4000000 in
set_option maxRecDepth 100000 in
theorem pages_Cut.calls (k : Nat) (A0 : Option Addr) (c0 : Nat) (l0 : List S45) (a1 : Int) (r1 : List S45) (r2 : Int) (w : World) (hr0 : Kd.C k45 w A0 l0.length l0) (hc0 : l0.length ≤ c0) (h : pages_Cut.f k l0 a1 = some (r1, r2)) :
    Calls Tryd.prog 19 #[.slice A0 l0.length c0, .int .i64 a1] w fun e w' => ∃ v0_ : Value, e = .returned (.tuple #[v0_, .int .i64 r2]) ∧ Kd.R k45 45 w' w.heap.size (fun _ => True) v0_ r1 ∧ Below w.heap.size w w' := by
  have HLEN := Aside0.mk (readsrow_len hr0)
  have HR0 := Aside0.mk hr0
  have HC0 := Aside0.mk hc0
  clear hr0 hc0
  unfold pages_Cut.f at h
  obtain ⟨b, hb, h⟩ := Option.bind_eq_some_iff.1 h
  have HA := Aside0.mk hb
  cases b with
  | false =>
    simp only [Bool.false_eq_true, if_false, Option.some.injEq, Prod.mk.injEq] at h
    obtain ⟨rfl, rfl⟩ := h
    clear hb
    go_enter Tryd.func19, Tryd.ntmps19
    go_wp2_with (go_at_call 11; refine (pages_Right.calls k _ _ l0 false _ HR0.out HC0.out HA.out).mono ?_; rintro e w1 ⟨rfl, hb1⟩)
    go_ret2
    exact ⟨_, rfl, Kd.R_nil _ _ _ _ _, hb1⟩
  | true =>
    have HFIT := Aside0.mk (fit_of_right HLEN.out hb)
    clear hb
    simp only [if_true] at h
    by_cases hneg : a1 < 0
    · rw [if_pos hneg] at h
      simp only [Option.some.injEq, Prod.mk.injEq] at h
      obtain ⟨rfl, rfl⟩ := h
      go_enter Tryd.func19, Tryd.ntmps19
      go_wp2_with (first | (go_at_call 11; refine (pages_Right.calls k _ _ l0 true _ HR0.out HC0.out HA.out).mono ?_; rintro e w1 ⟨rfl, hb1⟩))
      go_ret2
      exact ⟨_, rfl, Kd.R_nil _ _ _ _ _, hb1⟩
    · rw [if_neg hneg] at h
      simp only [Option.some.injEq, Prod.mk.injEq] at h
      obtain ⟨rfl, rfl⟩ := h
      obtain ⟨m, hm⟩ : ∃ m, m = min a1.toNat 1024 := ⟨_, rfl⟩
      rw [← hm]
      have HM := Aside0.mk (show m ≤ 1024 by omega)
      have HSL := Aside0.mk (spreadL_length l0 zl HFIT.out (by simp [zl]))
      generalize hFL : spreadL l0 zl = fl at HSL
      have HFL := Aside0.mk hFL
      clear hFL
      have HSP := Aside0.mk (show (fl.take m ++ List.replicate (1024 - m) 0).length = 1024 by simp [HSL.out]; have := HM.out; omega)
      generalize hF2 : fl.take m ++ List.replicate (1024 - m) 0 = f2 at HSP
      have HF2 := Aside0.mk hF2
      clear hF2
      have hz := zero58
      have hi58 : Aside0 ((Tryd.prog.info? 58).map (·.size) = some (flatC fl).size) := ⟨by rw [flatC_size, HSL.out]; kernel_rfl⟩
      have hi58' : Aside0 ((Tryd.prog.info? 58).map (·.size) = some (flatC f2).size) := ⟨by rw [flatC_size, HSP.out]; kernel_rfl⟩
      have hnn := decide_eq_false hneg
      by_cases hlt : 1024 < a1
      all_goals
        have HI := Aside0.mk (show (if (1024 : Int) < a1 then (1024 : Int) else a1) = (m : Int) by split <;> omega)
        clear hm hneg
        simp only [hlt, if_true, if_false] at HI
        go_enter Tryd.func19, Tryd.ntmps19
        go_wp2_with (first | (go_at_call 11; refine (pages_Right.calls k _ _ l0 true _ HR0.out HC0.out HA.out).mono ?_; rintro e w1 ⟨rfl, hb1⟩) | (go_at_call 32; refine (spread.calls _ _ l0 _ (Kd.C_below HR0.out hb1) HC0.out HLEN.out HFIT.out).mono ?_; rintro e w2 ⟨rfl, hb2⟩; rw [HFL.out]) | ((with_reducible refine gate_dst (N := 6) rfl ?_); (try (refine gate_guard (by rfl) ?_; dsimp only)); refine box_event ?hg (N := 6) ?hd (cs := flatC zl) (t := 58) ?hr ?_; (case hd => rfl); (case hg => rfl); (case hr => first | (go_simp; done) | (go_simp; rfl)); intro gb hg w6 hbox hb; have BK := Aside0.mk hbox; have HB1 := Aside0.mk hb; have HG := Aside0.mk hg; clear hbox hb hg; obtain ⟨A', hcut, hconv⟩ := cut_from' gb m _ HI.out HM.out; have HCV := Aside0.mk hconv; clear hconv) | (refine wpList_store_row rfl 58 (.tmp 6) (.tmp 15) rfl gb (flatC fl) rfl rfl 58 _ BK.out hi58.out (by rw [flatC_size, flatC_size, HSL.out]; simp [zl]) ?hone ?_; (case hone => simp [flatC, nums, Value.oneCell'])) | ((with_reducible refine gate_builtin (b := .clear) (xs := #[.tmp 18]) rfl ?_); refine wpList_clear_at rfl (.tmp 18) rfl gb m (1024 - m) (1024 - m) A' (fun h => HCV.out (by omega)) rfl fl 58 (setRow_heap _ _ _ _ _ _ BK.out) (by rw [HSL.out]; have := HM.out; omega) ?_; intro w8 hF8 hS8 hB8; rw [HF2.out] at hF8) | (refine wpList_load_row rfl 58 (.tmp 6) rfl gb rfl 58 _ (0, 0) (.array 1024 5) hF8.out (by kernel_rfl) rfl hi58'.out ?_) | (go_at_call 34; refine (fold.calls f2 HSP.out _).mono ?_; rintro e w9 ⟨v9, rfl, ho9, hb9⟩))
        have hB8' : Below w.heap.size w w8 := hB8.out _ _ (by have := HG.out; have := hb1.size; have := hb2.size; omega) (below_setRow (below_step (below_step hb1 hb2) HB1.out) (by have := HG.out; have := hb1.size; have := hb2.size; omega) _)
        go_ret2
        exact ⟨v9, rfl, Kd.R_lower ho9 (below_size hB8'), below_step hB8' hb9⟩
end Go.Proofs.YtojnmgogigamdaaDoor.Q
