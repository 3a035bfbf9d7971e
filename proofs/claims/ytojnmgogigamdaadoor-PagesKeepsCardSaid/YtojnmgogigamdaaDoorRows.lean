/-
  NARROWER THAN 'FOR EVERY INPUT', by the rows' own cells (each row's printed sentence says how): PagesRight: laid · PagesPut: laid · PagesThere: laid · PagesCut: laid · PagesOver: laid · PagesKeeps: laid · PagesRows: laid.
  DERIVED. THE GIVEN ROWS OF THIS SEAT. 7 by the template 'for every input the law returns true; each argument reads behind the call as it read before'; 0 by the template 'total and deterministic' (their statements: YtojnmgogigamdaaDoorTotals.lean).
  GIVEN WITH THE SEED: the statements are not yours to turn. If you find one false, say at which input.
  Laid BY PROGRAM, IN A SANDBOX (cutbox-rows.mjs): the forced cells as the released guide's own fill.sh prints them over the translation d34ef22fa4199801… (all of the seat's roots in one cut). By AI agents, Wed Nov 11 2026. No macro, syntax, notation, axiom, sorry.
-/
import Derived.Test.YtojnmgogigamdaaDoorChecked
import GoSem.PinnedTables
import GoSem.Claim
import GoSem.ClaimJoined
import GoSem.ClaimMapViews
import Derived.JoinedTies
import Derived.KernelRfl
namespace Go.Proofs.YtojnmgogigamdaaDoor
/- THE CELL 'sum', in the pinned program and in every row, IS THE sha256 OF THE DUMP (.gsa) THAT YtojnmgogigamdaaDoorProg.lean LOADS. Nothing in Lean hashes anything: it is a label: what it is worth is what the hold of that sum in a sandbox is worth. -/
noncomputable def Tryd.pinned : Pinned := { name := "ytojnmgogigamdaadoor", sum := "d34ef22fa41998014a441b4457e14d6f282b071d722aa4d1ae130de2add1859c", checked := Tryd.checked }
namespace Rows
def none {H : Type} : Left H := { results := [], args := [] }

/- WHAT THE LISTED PACKAGE-LEVEL VARIABLES READ AS WHEN THE CALL BEGINS. Each datum BY PROGRAM (the guide's laid-datum.mjs) off the statement by which the dump's own 'gosem.cut.vars' lays the variable. In a bare row this is a premise. The card (YtojnmgogigamdaaDoorCards.lean) ties it to the program's text. -/
def laid_unicode_utf8_acceptRanges {H : Type} : DataW H := .agg [.agg [.lit (.int .u8 128), .lit (.int .u8 191)], .agg [.lit (.int .u8 160), .lit (.int .u8 191)], .agg [.lit (.int .u8 128), .lit (.int .u8 159)], .agg [.lit (.int .u8 144), .lit (.int .u8 191)], .agg [.lit (.int .u8 128), .lit (.int .u8 143)], .agg [.lit (.int .u8 0), .lit (.int .u8 0)], .agg [.lit (.int .u8 0), .lit (.int .u8 0)], .agg [.lit (.int .u8 0), .lit (.int .u8 0)], .agg [.lit (.int .u8 0), .lit (.int .u8 0)], .agg [.lit (.int .u8 0), .lit (.int .u8 0)], .agg [.lit (.int .u8 0), .lit (.int .u8 0)], .agg [.lit (.int .u8 0), .lit (.int .u8 0)], .agg [.lit (.int .u8 0), .lit (.int .u8 0)], .agg [.lit (.int .u8 0), .lit (.int .u8 0)], .agg [.lit (.int .u8 0), .lit (.int .u8 0)], .agg [.lit (.int .u8 0), .lit (.int .u8 0)]]
/-- One of Go's own tables, pinned by name: the form's constant. -/
def laid_unicode_utf8_first : DataW Unit := Go.Pinned.utf8First

/-- 'lamellalaw07.PagesRight': WHATEVER THE INPUT: true; the input reads as it did. -/
def pagesRightSpec : ChangeSpec := { name := "pagesRight", fn := fun _ => fun
  | [d1, d2, d3] => { results := [.lit (.bool true)], args := [d1, d2, d3] }
  | _ => none }
def pagesRightRow : OpenClaim := { program := "ytojnmgogigamdaadoor", sum := "d34ef22fa41998014a441b4457e14d6f282b071d722aa4d1ae130de2add1859c", func := "lamella/lamellalaw07.PagesRight", spec := "pagesRight", inPlace := ["internal/bytealg.IndexByteString", "internal/bytealg.IndexString"], named := ["unicode/utf8.first", "unicode/utf8.acceptRanges", "internal/bytealg.MaxLen"], apart := false, laid := [("unicode/utf8.acceptRanges", laid_unicode_utf8_acceptRanges), ("unicode/utf8.first", laid_unicode_utf8_first)] }
def PagesRightSaid : Prop := pagesRightRow.holds Tryd.pinned (OpenSpec.ofChange pagesRightSpec)

/-- ITS FALSE NEIGHBOUR: 'it returns false'. Refute it at one input. -/
def pagesRightWrong : ChangeSpec := { name := "pagesRight", fn := fun _ => fun
  | [d1, d2, d3] => { results := [.lit (.bool false)], args := [d1, d2, d3] }
  | _ => none }
def PagesRightWrongFalsely : Prop := pagesRightRow.holds Tryd.pinned (OpenSpec.ofChange pagesRightWrong)

/-- 'lamellalaw07.PagesPut': WHATEVER THE INPUT: true; the input reads as it did. -/
def pagesPutSpec : ChangeSpec := { name := "pagesPut", fn := fun _ => fun
  | [d1, d2, d3, d4] => { results := [.lit (.bool true)], args := [d1, d2, d3, d4] }
  | _ => none }
def pagesPutRow : OpenClaim := { program := "ytojnmgogigamdaadoor", sum := "d34ef22fa41998014a441b4457e14d6f282b071d722aa4d1ae130de2add1859c", func := "lamella/lamellalaw07.PagesPut", spec := "pagesPut", inPlace := ["internal/bytealg.IndexByteString", "internal/bytealg.IndexString"], named := ["unicode/utf8.first", "unicode/utf8.acceptRanges", "internal/bytealg.MaxLen"], apart := false, laid := [("unicode/utf8.acceptRanges", laid_unicode_utf8_acceptRanges), ("unicode/utf8.first", laid_unicode_utf8_first)] }
def PagesPutSaid : Prop := pagesPutRow.holds Tryd.pinned (OpenSpec.ofChange pagesPutSpec)

/-- ITS FALSE NEIGHBOUR: 'it returns false'. Refute it at one input. -/
def pagesPutWrong : ChangeSpec := { name := "pagesPut", fn := fun _ => fun
  | [d1, d2, d3, d4] => { results := [.lit (.bool false)], args := [d1, d2, d3, d4] }
  | _ => none }
def PagesPutWrongFalsely : Prop := pagesPutRow.holds Tryd.pinned (OpenSpec.ofChange pagesPutWrong)

/-- 'lamellalaw07.PagesThere': WHATEVER THE INPUT: true; the input reads as it did. -/
def pagesThereSpec : ChangeSpec := { name := "pagesThere", fn := fun _ => fun
  | [d1, d2, d3, d4] => { results := [.lit (.bool true)], args := [d1, d2, d3, d4] }
  | _ => none }
def pagesThereRow : OpenClaim := { program := "ytojnmgogigamdaadoor", sum := "d34ef22fa41998014a441b4457e14d6f282b071d722aa4d1ae130de2add1859c", func := "lamella/lamellalaw07.PagesThere", spec := "pagesThere", inPlace := ["internal/bytealg.IndexByteString", "internal/bytealg.IndexString"], named := ["unicode/utf8.first", "unicode/utf8.acceptRanges", "internal/bytealg.MaxLen"], apart := false, laid := [("unicode/utf8.acceptRanges", laid_unicode_utf8_acceptRanges), ("unicode/utf8.first", laid_unicode_utf8_first)] }
def PagesThereSaid : Prop := pagesThereRow.holds Tryd.pinned (OpenSpec.ofChange pagesThereSpec)

/-- ITS FALSE NEIGHBOUR: 'it returns false'. Refute it at one input. -/
def pagesThereWrong : ChangeSpec := { name := "pagesThere", fn := fun _ => fun
  | [d1, d2, d3, d4] => { results := [.lit (.bool false)], args := [d1, d2, d3, d4] }
  | _ => none }
def PagesThereWrongFalsely : Prop := pagesThereRow.holds Tryd.pinned (OpenSpec.ofChange pagesThereWrong)

/-- 'lamellalaw07.PagesCut': WHATEVER THE INPUT: true; the input reads as it did. -/
def pagesCutSpec : ChangeSpec := { name := "pagesCut", fn := fun _ => fun
  | [d1, d2] => { results := [.lit (.bool true)], args := [d1, d2] }
  | _ => none }
def pagesCutRow : OpenClaim := { program := "ytojnmgogigamdaadoor", sum := "d34ef22fa41998014a441b4457e14d6f282b071d722aa4d1ae130de2add1859c", func := "lamella/lamellalaw07.PagesCut", spec := "pagesCut", inPlace := ["internal/bytealg.IndexByteString", "internal/bytealg.IndexString"], named := ["unicode/utf8.first", "unicode/utf8.acceptRanges", "internal/bytealg.MaxLen"], apart := false, laid := [("unicode/utf8.acceptRanges", laid_unicode_utf8_acceptRanges), ("unicode/utf8.first", laid_unicode_utf8_first)] }
def PagesCutSaid : Prop := pagesCutRow.holds Tryd.pinned (OpenSpec.ofChange pagesCutSpec)

/-- ITS FALSE NEIGHBOUR: 'it returns false'. Refute it at one input. -/
def pagesCutWrong : ChangeSpec := { name := "pagesCut", fn := fun _ => fun
  | [d1, d2] => { results := [.lit (.bool false)], args := [d1, d2] }
  | _ => none }
def PagesCutWrongFalsely : Prop := pagesCutRow.holds Tryd.pinned (OpenSpec.ofChange pagesCutWrong)

/-- 'lamellalaw07.PagesOver': WHATEVER THE INPUT: true; the input reads as it did. -/
def pagesOverSpec : ChangeSpec := { name := "pagesOver", fn := fun _ => fun
  | [d1, d2, d3, d4, d5] => { results := [.lit (.bool true)], args := [d1, d2, d3, d4, d5] }
  | _ => none }
def pagesOverRow : OpenClaim := { program := "ytojnmgogigamdaadoor", sum := "d34ef22fa41998014a441b4457e14d6f282b071d722aa4d1ae130de2add1859c", func := "lamella/lamellalaw07.PagesOver", spec := "pagesOver", inPlace := ["internal/bytealg.IndexByteString", "internal/bytealg.IndexString"], named := ["unicode/utf8.first", "unicode/utf8.acceptRanges", "internal/bytealg.MaxLen"], apart := false, laid := [("unicode/utf8.acceptRanges", laid_unicode_utf8_acceptRanges), ("unicode/utf8.first", laid_unicode_utf8_first)] }
def PagesOverSaid : Prop := pagesOverRow.holds Tryd.pinned (OpenSpec.ofChange pagesOverSpec)

/-- ITS FALSE NEIGHBOUR: 'it returns false'. Refute it at one input. -/
def pagesOverWrong : ChangeSpec := { name := "pagesOver", fn := fun _ => fun
  | [d1, d2, d3, d4, d5] => { results := [.lit (.bool false)], args := [d1, d2, d3, d4, d5] }
  | _ => none }
def PagesOverWrongFalsely : Prop := pagesOverRow.holds Tryd.pinned (OpenSpec.ofChange pagesOverWrong)

/-- 'lamellalaw07.PagesKeeps': WHATEVER THE INPUT: true; the input reads as it did. -/
def pagesKeepsSpec : ChangeSpec := { name := "pagesKeeps", fn := fun _ => fun
  | [d1, d2, d3] => { results := [.lit (.bool true)], args := [d1, d2, d3] }
  | _ => none }
def pagesKeepsRow : OpenClaim := { program := "ytojnmgogigamdaadoor", sum := "d34ef22fa41998014a441b4457e14d6f282b071d722aa4d1ae130de2add1859c", func := "lamella/lamellalaw07.PagesKeeps", spec := "pagesKeeps", inPlace := ["internal/bytealg.IndexByteString", "internal/bytealg.IndexString"], named := ["unicode/utf8.first", "unicode/utf8.acceptRanges", "internal/bytealg.MaxLen"], apart := false, laid := [("unicode/utf8.acceptRanges", laid_unicode_utf8_acceptRanges), ("unicode/utf8.first", laid_unicode_utf8_first)] }
def PagesKeepsSaid : Prop := pagesKeepsRow.holds Tryd.pinned (OpenSpec.ofChange pagesKeepsSpec)

/-- ITS FALSE NEIGHBOUR: 'it returns false'. Refute it at one input. -/
def pagesKeepsWrong : ChangeSpec := { name := "pagesKeeps", fn := fun _ => fun
  | [d1, d2, d3] => { results := [.lit (.bool false)], args := [d1, d2, d3] }
  | _ => none }
def PagesKeepsWrongFalsely : Prop := pagesKeepsRow.holds Tryd.pinned (OpenSpec.ofChange pagesKeepsWrong)

/-- 'lamellalaw07.PagesRows': WHATEVER THE INPUT: true; the input reads as it did. -/
def pagesRowsSpec : ChangeSpec := { name := "pagesRows", fn := fun _ => fun
  | [d1, d2, d3, d4] => { results := [.lit (.bool true)], args := [d1, d2, d3, d4] }
  | _ => none }
def pagesRowsRow : OpenClaim := { program := "ytojnmgogigamdaadoor", sum := "d34ef22fa41998014a441b4457e14d6f282b071d722aa4d1ae130de2add1859c", func := "lamella/lamellalaw07.PagesRows", spec := "pagesRows", inPlace := ["internal/bytealg.IndexByteString", "internal/bytealg.IndexString"], named := ["unicode/utf8.first", "unicode/utf8.acceptRanges", "internal/bytealg.MaxLen"], apart := false, laid := [("unicode/utf8.acceptRanges", laid_unicode_utf8_acceptRanges), ("unicode/utf8.first", laid_unicode_utf8_first)] }
def PagesRowsSaid : Prop := pagesRowsRow.holds Tryd.pinned (OpenSpec.ofChange pagesRowsSpec)

/-- ITS FALSE NEIGHBOUR: 'it returns false'. Refute it at one input. -/
def pagesRowsWrong : ChangeSpec := { name := "pagesRows", fn := fun _ => fun
  | [d1, d2, d3, d4] => { results := [.lit (.bool false)], args := [d1, d2, d3, d4] }
  | _ => none }
def PagesRowsWrongFalsely : Prop := pagesRowsRow.holds Tryd.pinned (OpenSpec.ofChange pagesRowsWrong)

/- THE SECOND FORM. 'bulk': how many values and letters a reading holds, each counted each time it is reached (what is shared counts as often as it is met; a slice's spare places count too). A statement '..UptoSaid' is the law's where the arguments, and the package variables that the reading takes, are together of bulk at most 1048576: NARROWER than '..Said'. Prove '..Said' where nothing that the law and all that it calls make is longer than what came in: it says more and counts as full. Else prove '..UptoSaid'. A law counts once. -/
mutual
def uptoBulk {H : Type} : DataW H → Nat
  | .lit (.string bytes) => bytes.length + 1
  | .lit _ => 1
  | .nil => 1
  | .ptr d => uptoBulk d + 1
  | .slice elems spare => uptoBulkAll elems + uptoBulkAll spare + 1
  | .agg parts => uptoBulkAll parts + 1
  | .iface _ d => uptoBulk d + 1
  | .map entries => uptoBulkEntries entries + 1
  | .held _ => 1
def uptoBulkAll {H : Type} : List (DataW H) → Nat
  | [] => 0
  | d :: r => uptoBulk d + uptoBulkAll r
def uptoBulkEntries {H : Type} : List (Lit × DataW H) → Nat
  | [] => 0
  | x :: r => uptoBulkEntry x + uptoBulkEntries r
def uptoBulkEntry {H : Type} : Lit × DataW H → Nat
  | (.string bytes, d) => bytes.length + uptoBulk d + 1
  | (_, d) => uptoBulk d + 1
 end
def uptoSmall : (H : Type) → List (DataW H) → Bool := fun _ ds => decide (uptoBulkAll ds ≤ 1048576)
def OpenSpec.upto (s : _root_.Go.ChangeSpec) : _root_.Go.OpenSpec := { _root_.Go.OpenSpec.ofChange s with cond := some uptoSmall }

/-- 'lamellalaw07.PagesRight', WHERE WHAT IT READS IS OF BULK AT MOST 1048576: true; the input reads as it did. -/
def pagesRightUptoRow : OpenClaim := { program := "ytojnmgogigamdaadoor", sum := "d34ef22fa41998014a441b4457e14d6f282b071d722aa4d1ae130de2add1859c", func := "lamella/lamellalaw07.PagesRight", spec := "pagesRight", inPlace := ["internal/bytealg.IndexByteString", "internal/bytealg.IndexString"], named := ["unicode/utf8.first", "unicode/utf8.acceptRanges", "internal/bytealg.MaxLen"], apart := false, laid := [("unicode/utf8.acceptRanges", laid_unicode_utf8_acceptRanges), ("unicode/utf8.first", laid_unicode_utf8_first)], narrowed := true }
def PagesRightUptoSaid : Prop := pagesRightUptoRow.holds Tryd.pinned (OpenSpec.upto pagesRightSpec)

/-- 'lamellalaw07.PagesPut', WHERE WHAT IT READS IS OF BULK AT MOST 1048576: true; the input reads as it did. -/
def pagesPutUptoRow : OpenClaim := { program := "ytojnmgogigamdaadoor", sum := "d34ef22fa41998014a441b4457e14d6f282b071d722aa4d1ae130de2add1859c", func := "lamella/lamellalaw07.PagesPut", spec := "pagesPut", inPlace := ["internal/bytealg.IndexByteString", "internal/bytealg.IndexString"], named := ["unicode/utf8.first", "unicode/utf8.acceptRanges", "internal/bytealg.MaxLen"], apart := false, laid := [("unicode/utf8.acceptRanges", laid_unicode_utf8_acceptRanges), ("unicode/utf8.first", laid_unicode_utf8_first)], narrowed := true }
def PagesPutUptoSaid : Prop := pagesPutUptoRow.holds Tryd.pinned (OpenSpec.upto pagesPutSpec)

/-- 'lamellalaw07.PagesThere', WHERE WHAT IT READS IS OF BULK AT MOST 1048576: true; the input reads as it did. -/
def pagesThereUptoRow : OpenClaim := { program := "ytojnmgogigamdaadoor", sum := "d34ef22fa41998014a441b4457e14d6f282b071d722aa4d1ae130de2add1859c", func := "lamella/lamellalaw07.PagesThere", spec := "pagesThere", inPlace := ["internal/bytealg.IndexByteString", "internal/bytealg.IndexString"], named := ["unicode/utf8.first", "unicode/utf8.acceptRanges", "internal/bytealg.MaxLen"], apart := false, laid := [("unicode/utf8.acceptRanges", laid_unicode_utf8_acceptRanges), ("unicode/utf8.first", laid_unicode_utf8_first)], narrowed := true }
def PagesThereUptoSaid : Prop := pagesThereUptoRow.holds Tryd.pinned (OpenSpec.upto pagesThereSpec)

/-- 'lamellalaw07.PagesCut', WHERE WHAT IT READS IS OF BULK AT MOST 1048576: true; the input reads as it did. -/
def pagesCutUptoRow : OpenClaim := { program := "ytojnmgogigamdaadoor", sum := "d34ef22fa41998014a441b4457e14d6f282b071d722aa4d1ae130de2add1859c", func := "lamella/lamellalaw07.PagesCut", spec := "pagesCut", inPlace := ["internal/bytealg.IndexByteString", "internal/bytealg.IndexString"], named := ["unicode/utf8.first", "unicode/utf8.acceptRanges", "internal/bytealg.MaxLen"], apart := false, laid := [("unicode/utf8.acceptRanges", laid_unicode_utf8_acceptRanges), ("unicode/utf8.first", laid_unicode_utf8_first)], narrowed := true }
def PagesCutUptoSaid : Prop := pagesCutUptoRow.holds Tryd.pinned (OpenSpec.upto pagesCutSpec)

/-- 'lamellalaw07.PagesOver', WHERE WHAT IT READS IS OF BULK AT MOST 1048576: true; the input reads as it did. -/
def pagesOverUptoRow : OpenClaim := { program := "ytojnmgogigamdaadoor", sum := "d34ef22fa41998014a441b4457e14d6f282b071d722aa4d1ae130de2add1859c", func := "lamella/lamellalaw07.PagesOver", spec := "pagesOver", inPlace := ["internal/bytealg.IndexByteString", "internal/bytealg.IndexString"], named := ["unicode/utf8.first", "unicode/utf8.acceptRanges", "internal/bytealg.MaxLen"], apart := false, laid := [("unicode/utf8.acceptRanges", laid_unicode_utf8_acceptRanges), ("unicode/utf8.first", laid_unicode_utf8_first)], narrowed := true }
def PagesOverUptoSaid : Prop := pagesOverUptoRow.holds Tryd.pinned (OpenSpec.upto pagesOverSpec)

/-- 'lamellalaw07.PagesKeeps', WHERE WHAT IT READS IS OF BULK AT MOST 1048576: true; the input reads as it did. -/
def pagesKeepsUptoRow : OpenClaim := { program := "ytojnmgogigamdaadoor", sum := "d34ef22fa41998014a441b4457e14d6f282b071d722aa4d1ae130de2add1859c", func := "lamella/lamellalaw07.PagesKeeps", spec := "pagesKeeps", inPlace := ["internal/bytealg.IndexByteString", "internal/bytealg.IndexString"], named := ["unicode/utf8.first", "unicode/utf8.acceptRanges", "internal/bytealg.MaxLen"], apart := false, laid := [("unicode/utf8.acceptRanges", laid_unicode_utf8_acceptRanges), ("unicode/utf8.first", laid_unicode_utf8_first)], narrowed := true }
def PagesKeepsUptoSaid : Prop := pagesKeepsUptoRow.holds Tryd.pinned (OpenSpec.upto pagesKeepsSpec)

/-- 'lamellalaw07.PagesRows', WHERE WHAT IT READS IS OF BULK AT MOST 1048576: true; the input reads as it did. -/
def pagesRowsUptoRow : OpenClaim := { program := "ytojnmgogigamdaadoor", sum := "d34ef22fa41998014a441b4457e14d6f282b071d722aa4d1ae130de2add1859c", func := "lamella/lamellalaw07.PagesRows", spec := "pagesRows", inPlace := ["internal/bytealg.IndexByteString", "internal/bytealg.IndexString"], named := ["unicode/utf8.first", "unicode/utf8.acceptRanges", "internal/bytealg.MaxLen"], apart := false, laid := [("unicode/utf8.acceptRanges", laid_unicode_utf8_acceptRanges), ("unicode/utf8.first", laid_unicode_utf8_first)], narrowed := true }
def PagesRowsUptoSaid : Prop := pagesRowsUptoRow.holds Tryd.pinned (OpenSpec.upto pagesRowsSpec)

end Rows
end Go.Proofs.YtojnmgogigamdaaDoor
