/-
  NARROWER THAN 'FOR EVERY INPUT', by the rows' own cells (each row's printed sentence says how): AuditOnce: laid · AuditAlone: laid · AuditFiles: laid · LedgerBack: laid · FlatDoes: laid · FlatReads: laid · FlatKeeps: laid · FlatRights: laid · FlatStays: laid · FlatLeaves: laid · FlatTears: laid · FlatTorn: laid.
  DERIVED. THE GIVEN ROWS OF THIS SEAT. 12 by the template 'for every input the law returns true; each argument reads behind the call as it read before'; 0 by the template 'total and deterministic' (their statements: YtikjfekagdcjmaaGreatDoorTotals.lean).
  GIVEN WITH THE SEED: the statements are not yours to turn. If you find one false, say at which input.
  Laid BY PROGRAM, IN A SANDBOX (cutbox-rows.mjs): the forced cells as the released guide's own fill.sh prints them over the translation 38e58d1acebf0e78… (all of the seat's roots in one cut). By AI agents, Wed Nov 11 2026. No macro, syntax, notation, axiom, sorry.
-/
import Derived.Test.YtikjfekagdcjmaaGreatDoorChecked
import GoSem.PinnedTables
import GoSem.Claim
import GoSem.ClaimJoined
import GoSem.ClaimMapViews
import Derived.JoinedTies
import Derived.KernelRfl
namespace Go.Proofs.YtikjfekagdcjmaaGreatDoor
/- THE CELL 'sum', in the pinned program and in every row, IS THE sha256 OF THE DUMP (.gsa) THAT YtikjfekagdcjmaaGreatDoorProg.lean LOADS. Nothing in Lean hashes anything: it is a label: what it is worth is what the hold of that sum in a sandbox is worth. -/
noncomputable def Tryz.pinned : Pinned := { name := "ytikjfekagdcjmaagreatdoor", sum := "38e58d1acebf0e781177f6a9ebb18ed0aca5b4ffebdcc92f87373a6a1e12edcd", checked := Tryz.checked }
namespace Rows
def none {H : Type} : Left H := { results := [], args := [] }

/- WHAT THE LISTED PACKAGE-LEVEL VARIABLES READ AS WHEN THE CALL BEGINS. Each datum BY PROGRAM (the guide's laid-datum.mjs) off the statement by which the dump's own 'gosem.cut.vars' lays the variable. In a bare row this is a premise. The card (YtikjfekagdcjmaaGreatDoorCards.lean) ties it to the program's text. -/
def laid_unicode_utf8_acceptRanges {H : Type} : DataW H := .agg [.agg [.lit (.int .u8 128), .lit (.int .u8 191)], .agg [.lit (.int .u8 160), .lit (.int .u8 191)], .agg [.lit (.int .u8 128), .lit (.int .u8 159)], .agg [.lit (.int .u8 144), .lit (.int .u8 191)], .agg [.lit (.int .u8 128), .lit (.int .u8 143)], .agg [.lit (.int .u8 0), .lit (.int .u8 0)], .agg [.lit (.int .u8 0), .lit (.int .u8 0)], .agg [.lit (.int .u8 0), .lit (.int .u8 0)], .agg [.lit (.int .u8 0), .lit (.int .u8 0)], .agg [.lit (.int .u8 0), .lit (.int .u8 0)], .agg [.lit (.int .u8 0), .lit (.int .u8 0)], .agg [.lit (.int .u8 0), .lit (.int .u8 0)], .agg [.lit (.int .u8 0), .lit (.int .u8 0)], .agg [.lit (.int .u8 0), .lit (.int .u8 0)], .agg [.lit (.int .u8 0), .lit (.int .u8 0)], .agg [.lit (.int .u8 0), .lit (.int .u8 0)]]
/-- One of Go's own tables, pinned by name: the form's constant. -/
def laid_unicode_utf8_first : DataW Unit := Go.Pinned.utf8First

/-- 'lamellalaw22.AuditOnce': WHATEVER THE INPUT: true; the input reads as it did. -/
def auditOnceSpec : ChangeSpec := { name := "auditOnce", fn := fun _ => fun
  | [d1, d2, d3] => { results := [.lit (.bool true)], args := [d1, d2, d3] }
  | _ => none }
def auditOnceRow : OpenClaim := { program := "ytikjfekagdcjmaagreatdoor", sum := "38e58d1acebf0e781177f6a9ebb18ed0aca5b4ffebdcc92f87373a6a1e12edcd", func := "lamella/lamellalaw22.AuditOnce", spec := "auditOnce", inPlace := ["internal/bytealg.IndexByteString", "internal/bytealg.IndexString"], unfollowed := true, recurses := true, named := ["unicode/utf8.first", "unicode/utf8.acceptRanges", "internal/bytealg.MaxLen"], apart := false, laid := [("unicode/utf8.acceptRanges", laid_unicode_utf8_acceptRanges), ("unicode/utf8.first", laid_unicode_utf8_first)] }
def AuditOnceSaid : Prop := auditOnceRow.holds Tryz.pinned (OpenSpec.ofChange auditOnceSpec)

/-- ITS FALSE NEIGHBOUR: 'it returns false'. Refute it at one input. -/
def auditOnceWrong : ChangeSpec := { name := "auditOnce", fn := fun _ => fun
  | [d1, d2, d3] => { results := [.lit (.bool false)], args := [d1, d2, d3] }
  | _ => none }
def AuditOnceWrongFalsely : Prop := auditOnceRow.holds Tryz.pinned (OpenSpec.ofChange auditOnceWrong)

/-- 'lamellalaw22.AuditAlone': WHATEVER THE INPUT: true; the input reads as it did. -/
def auditAloneSpec : ChangeSpec := { name := "auditAlone", fn := fun _ => fun
  | [d1, d2, d3, d4] => { results := [.lit (.bool true)], args := [d1, d2, d3, d4] }
  | _ => none }
def auditAloneRow : OpenClaim := { program := "ytikjfekagdcjmaagreatdoor", sum := "38e58d1acebf0e781177f6a9ebb18ed0aca5b4ffebdcc92f87373a6a1e12edcd", func := "lamella/lamellalaw22.AuditAlone", spec := "auditAlone", inPlace := ["internal/bytealg.IndexByteString", "internal/bytealg.IndexString"], unfollowed := true, recurses := true, named := ["unicode/utf8.first", "unicode/utf8.acceptRanges", "internal/bytealg.MaxLen"], apart := false, laid := [("unicode/utf8.acceptRanges", laid_unicode_utf8_acceptRanges), ("unicode/utf8.first", laid_unicode_utf8_first)] }
def AuditAloneSaid : Prop := auditAloneRow.holds Tryz.pinned (OpenSpec.ofChange auditAloneSpec)

/-- ITS FALSE NEIGHBOUR: 'it returns false'. Refute it at one input. -/
def auditAloneWrong : ChangeSpec := { name := "auditAlone", fn := fun _ => fun
  | [d1, d2, d3, d4] => { results := [.lit (.bool false)], args := [d1, d2, d3, d4] }
  | _ => none }
def AuditAloneWrongFalsely : Prop := auditAloneRow.holds Tryz.pinned (OpenSpec.ofChange auditAloneWrong)

/-- 'lamellalaw22.AuditFiles': WHATEVER THE INPUT: true; the input reads as it did. -/
def auditFilesSpec : ChangeSpec := { name := "auditFiles", fn := fun _ => fun
  | [d1, d2, d3, d4] => { results := [.lit (.bool true)], args := [d1, d2, d3, d4] }
  | _ => none }
def auditFilesRow : OpenClaim := { program := "ytikjfekagdcjmaagreatdoor", sum := "38e58d1acebf0e781177f6a9ebb18ed0aca5b4ffebdcc92f87373a6a1e12edcd", func := "lamella/lamellalaw22.AuditFiles", spec := "auditFiles", inPlace := ["internal/bytealg.IndexByteString", "internal/bytealg.IndexString"], unfollowed := true, recurses := true, named := ["unicode/utf8.first", "unicode/utf8.acceptRanges", "internal/bytealg.MaxLen"], apart := false, laid := [("unicode/utf8.acceptRanges", laid_unicode_utf8_acceptRanges), ("unicode/utf8.first", laid_unicode_utf8_first)] }
def AuditFilesSaid : Prop := auditFilesRow.holds Tryz.pinned (OpenSpec.ofChange auditFilesSpec)

/-- ITS FALSE NEIGHBOUR: 'it returns false'. Refute it at one input. -/
def auditFilesWrong : ChangeSpec := { name := "auditFiles", fn := fun _ => fun
  | [d1, d2, d3, d4] => { results := [.lit (.bool false)], args := [d1, d2, d3, d4] }
  | _ => none }
def AuditFilesWrongFalsely : Prop := auditFilesRow.holds Tryz.pinned (OpenSpec.ofChange auditFilesWrong)

/-- 'lamellalaw14.LedgerBack': WHATEVER THE INPUT: true; the input reads as it did. -/
def ledgerBackSpec : ChangeSpec := { name := "ledgerBack", fn := fun _ => fun
  | [d1, d2] => { results := [.lit (.bool true)], args := [d1, d2] }
  | _ => none }
def ledgerBackRow : OpenClaim := { program := "ytikjfekagdcjmaagreatdoor", sum := "38e58d1acebf0e781177f6a9ebb18ed0aca5b4ffebdcc92f87373a6a1e12edcd", func := "lamella/lamellalaw14.LedgerBack", spec := "ledgerBack", inPlace := ["internal/bytealg.IndexByteString", "internal/bytealg.IndexString", "internal/bytealg.abigen_runtime_cmpstring"], unfollowed := true, recurses := true, named := ["unicode/utf8.first", "unicode/utf8.acceptRanges", "internal/bytealg.MaxLen"], apart := false, laid := [("unicode/utf8.acceptRanges", laid_unicode_utf8_acceptRanges), ("unicode/utf8.first", laid_unicode_utf8_first)] }
def LedgerBackSaid : Prop := ledgerBackRow.holds Tryz.pinned (OpenSpec.ofChange ledgerBackSpec)

/-- ITS FALSE NEIGHBOUR: 'it returns false'. Refute it at one input. -/
def ledgerBackWrong : ChangeSpec := { name := "ledgerBack", fn := fun _ => fun
  | [d1, d2] => { results := [.lit (.bool false)], args := [d1, d2] }
  | _ => none }
def LedgerBackWrongFalsely : Prop := ledgerBackRow.holds Tryz.pinned (OpenSpec.ofChange ledgerBackWrong)

/-- 'lamellalaw19.FlatDoes': WHATEVER THE INPUT: true; the input reads as it did. -/
def flatDoesSpec : ChangeSpec := { name := "flatDoes", fn := fun _ => fun
  | [d1, d2, d3] => { results := [.lit (.bool true)], args := [d1, d2, d3] }
  | _ => none }
def flatDoesRow : OpenClaim := { program := "ytikjfekagdcjmaagreatdoor", sum := "38e58d1acebf0e781177f6a9ebb18ed0aca5b4ffebdcc92f87373a6a1e12edcd", func := "lamella/lamellalaw19.FlatDoes", spec := "flatDoes", inPlace := ["internal/bytealg.IndexByteString", "internal/bytealg.IndexString", "internal/bytealg.CountString", "slices.overlaps[lamella/api.Inode]", "internal/abi.NoEscape", "internal/bytealg.MakeNoZero"], unfollowed := true, recurses := true, named := ["unicode/utf8.first", "unicode/utf8.acceptRanges", "internal/bytealg.MaxLen"], apart := false, laid := [("unicode/utf8.acceptRanges", laid_unicode_utf8_acceptRanges), ("unicode/utf8.first", laid_unicode_utf8_first)] }
def FlatDoesSaid : Prop := flatDoesRow.holds Tryz.pinned (OpenSpec.ofChange flatDoesSpec)

/-- ITS FALSE NEIGHBOUR: 'it returns false'. Refute it at one input. -/
def flatDoesWrong : ChangeSpec := { name := "flatDoes", fn := fun _ => fun
  | [d1, d2, d3] => { results := [.lit (.bool false)], args := [d1, d2, d3] }
  | _ => none }
def FlatDoesWrongFalsely : Prop := flatDoesRow.holds Tryz.pinned (OpenSpec.ofChange flatDoesWrong)

/-- 'lamellalaw19.FlatReads': WHATEVER THE INPUT: true; the input reads as it did. -/
def flatReadsSpec : ChangeSpec := { name := "flatReads", fn := fun _ => fun
  | [d1, d2, d3, d4, d5, d6] => { results := [.lit (.bool true)], args := [d1, d2, d3, d4, d5, d6] }
  | _ => none }
def flatReadsRow : OpenClaim := { program := "ytikjfekagdcjmaagreatdoor", sum := "38e58d1acebf0e781177f6a9ebb18ed0aca5b4ffebdcc92f87373a6a1e12edcd", func := "lamella/lamellalaw19.FlatReads", spec := "flatReads", inPlace := ["internal/bytealg.IndexByteString", "internal/bytealg.IndexString", "internal/bytealg.CountString", "slices.overlaps[lamella/api.Inode]", "internal/abi.NoEscape", "internal/bytealg.MakeNoZero"], unfollowed := true, recurses := true, named := ["unicode/utf8.first", "unicode/utf8.acceptRanges", "internal/bytealg.MaxLen"], apart := false, laid := [("unicode/utf8.acceptRanges", laid_unicode_utf8_acceptRanges), ("unicode/utf8.first", laid_unicode_utf8_first)] }
def FlatReadsSaid : Prop := flatReadsRow.holds Tryz.pinned (OpenSpec.ofChange flatReadsSpec)

/-- ITS FALSE NEIGHBOUR: 'it returns false'. Refute it at one input. -/
def flatReadsWrong : ChangeSpec := { name := "flatReads", fn := fun _ => fun
  | [d1, d2, d3, d4, d5, d6] => { results := [.lit (.bool false)], args := [d1, d2, d3, d4, d5, d6] }
  | _ => none }
def FlatReadsWrongFalsely : Prop := flatReadsRow.holds Tryz.pinned (OpenSpec.ofChange flatReadsWrong)

/-- 'lamellalaw19.FlatKeeps': WHATEVER THE INPUT: true; the input reads as it did. -/
def flatKeepsSpec : ChangeSpec := { name := "flatKeeps", fn := fun _ => fun
  | [d1, d2, d3] => { results := [.lit (.bool true)], args := [d1, d2, d3] }
  | _ => none }
def flatKeepsRow : OpenClaim := { program := "ytikjfekagdcjmaagreatdoor", sum := "38e58d1acebf0e781177f6a9ebb18ed0aca5b4ffebdcc92f87373a6a1e12edcd", func := "lamella/lamellalaw19.FlatKeeps", spec := "flatKeeps", inPlace := ["internal/bytealg.IndexByteString", "internal/bytealg.IndexString", "internal/bytealg.CountString", "slices.overlaps[lamella/api.Inode]", "internal/abi.NoEscape", "internal/bytealg.MakeNoZero"], unfollowed := true, recurses := true, named := ["unicode/utf8.first", "unicode/utf8.acceptRanges", "internal/bytealg.MaxLen"], apart := false, laid := [("unicode/utf8.acceptRanges", laid_unicode_utf8_acceptRanges), ("unicode/utf8.first", laid_unicode_utf8_first)] }
def FlatKeepsSaid : Prop := flatKeepsRow.holds Tryz.pinned (OpenSpec.ofChange flatKeepsSpec)

/-- ITS FALSE NEIGHBOUR: 'it returns false'. Refute it at one input. -/
def flatKeepsWrong : ChangeSpec := { name := "flatKeeps", fn := fun _ => fun
  | [d1, d2, d3] => { results := [.lit (.bool false)], args := [d1, d2, d3] }
  | _ => none }
def FlatKeepsWrongFalsely : Prop := flatKeepsRow.holds Tryz.pinned (OpenSpec.ofChange flatKeepsWrong)

/-- 'lamellalaw19.FlatRights': WHATEVER THE INPUT: true; the input reads as it did. -/
def flatRightsSpec : ChangeSpec := { name := "flatRights", fn := fun _ => fun
  | [d1, d2, d3] => { results := [.lit (.bool true)], args := [d1, d2, d3] }
  | _ => none }
def flatRightsRow : OpenClaim := { program := "ytikjfekagdcjmaagreatdoor", sum := "38e58d1acebf0e781177f6a9ebb18ed0aca5b4ffebdcc92f87373a6a1e12edcd", func := "lamella/lamellalaw19.FlatRights", spec := "flatRights", inPlace := ["internal/bytealg.IndexByteString", "internal/bytealg.IndexString", "internal/bytealg.CountString", "slices.overlaps[lamella/api.Inode]", "internal/abi.NoEscape", "internal/bytealg.MakeNoZero"], unfollowed := true, recurses := true, named := ["unicode/utf8.first", "unicode/utf8.acceptRanges", "internal/bytealg.MaxLen"], apart := false, laid := [("unicode/utf8.acceptRanges", laid_unicode_utf8_acceptRanges), ("unicode/utf8.first", laid_unicode_utf8_first)] }
def FlatRightsSaid : Prop := flatRightsRow.holds Tryz.pinned (OpenSpec.ofChange flatRightsSpec)

/-- ITS FALSE NEIGHBOUR: 'it returns false'. Refute it at one input. -/
def flatRightsWrong : ChangeSpec := { name := "flatRights", fn := fun _ => fun
  | [d1, d2, d3] => { results := [.lit (.bool false)], args := [d1, d2, d3] }
  | _ => none }
def FlatRightsWrongFalsely : Prop := flatRightsRow.holds Tryz.pinned (OpenSpec.ofChange flatRightsWrong)

/-- 'lamellalaw19.FlatStays': WHATEVER THE INPUT: true; the input reads as it did. -/
def flatStaysSpec : ChangeSpec := { name := "flatStays", fn := fun _ => fun
  | [d1, d2, d3] => { results := [.lit (.bool true)], args := [d1, d2, d3] }
  | _ => none }
def flatStaysRow : OpenClaim := { program := "ytikjfekagdcjmaagreatdoor", sum := "38e58d1acebf0e781177f6a9ebb18ed0aca5b4ffebdcc92f87373a6a1e12edcd", func := "lamella/lamellalaw19.FlatStays", spec := "flatStays", inPlace := ["internal/bytealg.IndexByteString", "internal/bytealg.IndexString", "internal/bytealg.CountString", "slices.overlaps[lamella/api.Inode]", "internal/abi.NoEscape", "internal/bytealg.MakeNoZero"], unfollowed := true, recurses := true, named := ["unicode/utf8.first", "unicode/utf8.acceptRanges", "internal/bytealg.MaxLen"], apart := false, laid := [("unicode/utf8.acceptRanges", laid_unicode_utf8_acceptRanges), ("unicode/utf8.first", laid_unicode_utf8_first)] }
def FlatStaysSaid : Prop := flatStaysRow.holds Tryz.pinned (OpenSpec.ofChange flatStaysSpec)

/-- ITS FALSE NEIGHBOUR: 'it returns false'. Refute it at one input. -/
def flatStaysWrong : ChangeSpec := { name := "flatStays", fn := fun _ => fun
  | [d1, d2, d3] => { results := [.lit (.bool false)], args := [d1, d2, d3] }
  | _ => none }
def FlatStaysWrongFalsely : Prop := flatStaysRow.holds Tryz.pinned (OpenSpec.ofChange flatStaysWrong)

/-- 'lamellalaw19.FlatLeaves': WHATEVER THE INPUT: true; the input reads as it did. -/
def flatLeavesSpec : ChangeSpec := { name := "flatLeaves", fn := fun _ => fun
  | [d1, d2, d3] => { results := [.lit (.bool true)], args := [d1, d2, d3] }
  | _ => none }
def flatLeavesRow : OpenClaim := { program := "ytikjfekagdcjmaagreatdoor", sum := "38e58d1acebf0e781177f6a9ebb18ed0aca5b4ffebdcc92f87373a6a1e12edcd", func := "lamella/lamellalaw19.FlatLeaves", spec := "flatLeaves", inPlace := ["internal/bytealg.IndexByteString", "internal/bytealg.IndexString", "internal/bytealg.CountString", "slices.overlaps[lamella/api.Inode]", "internal/abi.NoEscape", "internal/bytealg.MakeNoZero"], unfollowed := true, recurses := true, named := ["unicode/utf8.first", "unicode/utf8.acceptRanges", "internal/bytealg.MaxLen"], apart := false, laid := [("unicode/utf8.acceptRanges", laid_unicode_utf8_acceptRanges), ("unicode/utf8.first", laid_unicode_utf8_first)] }
def FlatLeavesSaid : Prop := flatLeavesRow.holds Tryz.pinned (OpenSpec.ofChange flatLeavesSpec)

/-- ITS FALSE NEIGHBOUR: 'it returns false'. Refute it at one input. -/
def flatLeavesWrong : ChangeSpec := { name := "flatLeaves", fn := fun _ => fun
  | [d1, d2, d3] => { results := [.lit (.bool false)], args := [d1, d2, d3] }
  | _ => none }
def FlatLeavesWrongFalsely : Prop := flatLeavesRow.holds Tryz.pinned (OpenSpec.ofChange flatLeavesWrong)

/-- 'lamellalaw19.FlatTears': WHATEVER THE INPUT: true; the input reads as it did. -/
def flatTearsSpec : ChangeSpec := { name := "flatTears", fn := fun _ => fun
  | [d1, d2, d3, d4, d5] => { results := [.lit (.bool true)], args := [d1, d2, d3, d4, d5] }
  | _ => none }
def flatTearsRow : OpenClaim := { program := "ytikjfekagdcjmaagreatdoor", sum := "38e58d1acebf0e781177f6a9ebb18ed0aca5b4ffebdcc92f87373a6a1e12edcd", func := "lamella/lamellalaw19.FlatTears", spec := "flatTears", inPlace := ["internal/bytealg.IndexByteString", "internal/bytealg.IndexString", "internal/bytealg.CountString", "slices.overlaps[lamella/api.Inode]", "internal/abi.NoEscape", "internal/bytealg.MakeNoZero"], unfollowed := true, recurses := true, named := ["unicode/utf8.first", "unicode/utf8.acceptRanges", "internal/bytealg.MaxLen"], apart := false, laid := [("unicode/utf8.acceptRanges", laid_unicode_utf8_acceptRanges), ("unicode/utf8.first", laid_unicode_utf8_first)] }
def FlatTearsSaid : Prop := flatTearsRow.holds Tryz.pinned (OpenSpec.ofChange flatTearsSpec)

/-- ITS FALSE NEIGHBOUR: 'it returns false'. Refute it at one input. -/
def flatTearsWrong : ChangeSpec := { name := "flatTears", fn := fun _ => fun
  | [d1, d2, d3, d4, d5] => { results := [.lit (.bool false)], args := [d1, d2, d3, d4, d5] }
  | _ => none }
def FlatTearsWrongFalsely : Prop := flatTearsRow.holds Tryz.pinned (OpenSpec.ofChange flatTearsWrong)

/-- 'lamellalaw19.FlatTorn': WHATEVER THE INPUT: true; the input reads as it did. -/
def flatTornSpec : ChangeSpec := { name := "flatTorn", fn := fun _ => fun
  | [d1, d2, d3, d4] => { results := [.lit (.bool true)], args := [d1, d2, d3, d4] }
  | _ => none }
def flatTornRow : OpenClaim := { program := "ytikjfekagdcjmaagreatdoor", sum := "38e58d1acebf0e781177f6a9ebb18ed0aca5b4ffebdcc92f87373a6a1e12edcd", func := "lamella/lamellalaw19.FlatTorn", spec := "flatTorn", inPlace := ["internal/bytealg.IndexByteString", "internal/bytealg.IndexString", "internal/bytealg.CountString", "slices.overlaps[lamella/api.Inode]", "internal/abi.NoEscape", "internal/bytealg.MakeNoZero"], unfollowed := true, recurses := true, named := ["unicode/utf8.first", "unicode/utf8.acceptRanges", "internal/bytealg.MaxLen"], apart := false, laid := [("unicode/utf8.acceptRanges", laid_unicode_utf8_acceptRanges), ("unicode/utf8.first", laid_unicode_utf8_first)] }
def FlatTornSaid : Prop := flatTornRow.holds Tryz.pinned (OpenSpec.ofChange flatTornSpec)

/-- ITS FALSE NEIGHBOUR: 'it returns false'. Refute it at one input. -/
def flatTornWrong : ChangeSpec := { name := "flatTorn", fn := fun _ => fun
  | [d1, d2, d3, d4] => { results := [.lit (.bool false)], args := [d1, d2, d3, d4] }
  | _ => none }
def FlatTornWrongFalsely : Prop := flatTornRow.holds Tryz.pinned (OpenSpec.ofChange flatTornWrong)

/- THE SECOND FORM. 'bulk': how many values and letters a reading holds, each counted each time it is reached (what is shared counts as often as it is met; a slice's spare places count too). A statement '..UptoSaid' is the law's where the arguments, and the package variables that the reading takes, are together of bulk at most 1048576: NARROWER than '..Said'. Prove '..Said' where nothing that the law and all that it calls make is longer than what came in: it says more and counts as full. Else prove '..UptoSaid'. A law counts once. -/
mutual
def uptoBulk {H : Type} : DataW H → Nat
  | .lit (.string bytes) => bytes.length + 1
  | .lit _ => 1
  | .nil => 1
  | .ptr d => uptoBulk d + 1
  | .slice elems spare => uptoBulkAll elems + uptoBulkAll spare + 1
  | .agg parts => uptoBulkAll parts + 1
  | .iface _ d => uptoBulk d + 1
  | .map entries => uptoBulkEntries entries + 1
  | .held _ => 1
def uptoBulkAll {H : Type} : List (DataW H) → Nat
  | [] => 0
  | d :: r => uptoBulk d + uptoBulkAll r
def uptoBulkEntries {H : Type} : List (Lit × DataW H) → Nat
  | [] => 0
  | x :: r => uptoBulkEntry x + uptoBulkEntries r
def uptoBulkEntry {H : Type} : Lit × DataW H → Nat
  | (.string bytes, d) => bytes.length + uptoBulk d + 1
  | (_, d) => uptoBulk d + 1
 end
def uptoSmall : (H : Type) → List (DataW H) → Bool := fun _ ds => decide (uptoBulkAll ds ≤ 1048576)
def OpenSpec.upto (s : _root_.Go.ChangeSpec) : _root_.Go.OpenSpec := { _root_.Go.OpenSpec.ofChange s with cond := some uptoSmall }

/-- 'lamellalaw22.AuditOnce', WHERE WHAT IT READS IS OF BULK AT MOST 1048576: true; the input reads as it did. -/
def auditOnceUptoRow : OpenClaim := { program := "ytikjfekagdcjmaagreatdoor", sum := "38e58d1acebf0e781177f6a9ebb18ed0aca5b4ffebdcc92f87373a6a1e12edcd", func := "lamella/lamellalaw22.AuditOnce", spec := "auditOnce", inPlace := ["internal/bytealg.IndexByteString", "internal/bytealg.IndexString"], unfollowed := true, recurses := true, named := ["unicode/utf8.first", "unicode/utf8.acceptRanges", "internal/bytealg.MaxLen"], apart := false, laid := [("unicode/utf8.acceptRanges", laid_unicode_utf8_acceptRanges), ("unicode/utf8.first", laid_unicode_utf8_first)], narrowed := true }
def AuditOnceUptoSaid : Prop := auditOnceUptoRow.holds Tryz.pinned (OpenSpec.upto auditOnceSpec)

/-- 'lamellalaw22.AuditAlone', WHERE WHAT IT READS IS OF BULK AT MOST 1048576: true; the input reads as it did. -/
def auditAloneUptoRow : OpenClaim := { program := "ytikjfekagdcjmaagreatdoor", sum := "38e58d1acebf0e781177f6a9ebb18ed0aca5b4ffebdcc92f87373a6a1e12edcd", func := "lamella/lamellalaw22.AuditAlone", spec := "auditAlone", inPlace := ["internal/bytealg.IndexByteString", "internal/bytealg.IndexString"], unfollowed := true, recurses := true, named := ["unicode/utf8.first", "unicode/utf8.acceptRanges", "internal/bytealg.MaxLen"], apart := false, laid := [("unicode/utf8.acceptRanges", laid_unicode_utf8_acceptRanges), ("unicode/utf8.first", laid_unicode_utf8_first)], narrowed := true }
def AuditAloneUptoSaid : Prop := auditAloneUptoRow.holds Tryz.pinned (OpenSpec.upto auditAloneSpec)

/-- 'lamellalaw22.AuditFiles', WHERE WHAT IT READS IS OF BULK AT MOST 1048576: true; the input reads as it did. -/
def auditFilesUptoRow : OpenClaim := { program := "ytikjfekagdcjmaagreatdoor", sum := "38e58d1acebf0e781177f6a9ebb18ed0aca5b4ffebdcc92f87373a6a1e12edcd", func := "lamella/lamellalaw22.AuditFiles", spec := "auditFiles", inPlace := ["internal/bytealg.IndexByteString", "internal/bytealg.IndexString"], unfollowed := true, recurses := true, named := ["unicode/utf8.first", "unicode/utf8.acceptRanges", "internal/bytealg.MaxLen"], apart := false, laid := [("unicode/utf8.acceptRanges", laid_unicode_utf8_acceptRanges), ("unicode/utf8.first", laid_unicode_utf8_first)], narrowed := true }
def AuditFilesUptoSaid : Prop := auditFilesUptoRow.holds Tryz.pinned (OpenSpec.upto auditFilesSpec)

/-- 'lamellalaw14.LedgerBack', WHERE WHAT IT READS IS OF BULK AT MOST 1048576: true; the input reads as it did. -/
def ledgerBackUptoRow : OpenClaim := { program := "ytikjfekagdcjmaagreatdoor", sum := "38e58d1acebf0e781177f6a9ebb18ed0aca5b4ffebdcc92f87373a6a1e12edcd", func := "lamella/lamellalaw14.LedgerBack", spec := "ledgerBack", inPlace := ["internal/bytealg.IndexByteString", "internal/bytealg.IndexString", "internal/bytealg.abigen_runtime_cmpstring"], unfollowed := true, recurses := true, named := ["unicode/utf8.first", "unicode/utf8.acceptRanges", "internal/bytealg.MaxLen"], apart := false, laid := [("unicode/utf8.acceptRanges", laid_unicode_utf8_acceptRanges), ("unicode/utf8.first", laid_unicode_utf8_first)], narrowed := true }
def LedgerBackUptoSaid : Prop := ledgerBackUptoRow.holds Tryz.pinned (OpenSpec.upto ledgerBackSpec)

/-- 'lamellalaw19.FlatDoes', WHERE WHAT IT READS IS OF BULK AT MOST 1048576: true; the input reads as it did. -/
def flatDoesUptoRow : OpenClaim := { program := "ytikjfekagdcjmaagreatdoor", sum := "38e58d1acebf0e781177f6a9ebb18ed0aca5b4ffebdcc92f87373a6a1e12edcd", func := "lamella/lamellalaw19.FlatDoes", spec := "flatDoes", inPlace := ["internal/bytealg.IndexByteString", "internal/bytealg.IndexString", "internal/bytealg.CountString", "slices.overlaps[lamella/api.Inode]", "internal/abi.NoEscape", "internal/bytealg.MakeNoZero"], unfollowed := true, recurses := true, named := ["unicode/utf8.first", "unicode/utf8.acceptRanges", "internal/bytealg.MaxLen"], apart := false, laid := [("unicode/utf8.acceptRanges", laid_unicode_utf8_acceptRanges), ("unicode/utf8.first", laid_unicode_utf8_first)], narrowed := true }
def FlatDoesUptoSaid : Prop := flatDoesUptoRow.holds Tryz.pinned (OpenSpec.upto flatDoesSpec)

/-- 'lamellalaw19.FlatReads', WHERE WHAT IT READS IS OF BULK AT MOST 1048576: true; the input reads as it did. -/
def flatReadsUptoRow : OpenClaim := { program := "ytikjfekagdcjmaagreatdoor", sum := "38e58d1acebf0e781177f6a9ebb18ed0aca5b4ffebdcc92f87373a6a1e12edcd", func := "lamella/lamellalaw19.FlatReads", spec := "flatReads", inPlace := ["internal/bytealg.IndexByteString", "internal/bytealg.IndexString", "internal/bytealg.CountString", "slices.overlaps[lamella/api.Inode]", "internal/abi.NoEscape", "internal/bytealg.MakeNoZero"], unfollowed := true, recurses := true, named := ["unicode/utf8.first", "unicode/utf8.acceptRanges", "internal/bytealg.MaxLen"], apart := false, laid := [("unicode/utf8.acceptRanges", laid_unicode_utf8_acceptRanges), ("unicode/utf8.first", laid_unicode_utf8_first)], narrowed := true }
def FlatReadsUptoSaid : Prop := flatReadsUptoRow.holds Tryz.pinned (OpenSpec.upto flatReadsSpec)

/-- 'lamellalaw19.FlatKeeps', WHERE WHAT IT READS IS OF BULK AT MOST 1048576: true; the input reads as it did. -/
def flatKeepsUptoRow : OpenClaim := { program := "ytikjfekagdcjmaagreatdoor", sum := "38e58d1acebf0e781177f6a9ebb18ed0aca5b4ffebdcc92f87373a6a1e12edcd", func := "lamella/lamellalaw19.FlatKeeps", spec := "flatKeeps", inPlace := ["internal/bytealg.IndexByteString", "internal/bytealg.IndexString", "internal/bytealg.CountString", "slices.overlaps[lamella/api.Inode]", "internal/abi.NoEscape", "internal/bytealg.MakeNoZero"], unfollowed := true, recurses := true, named := ["unicode/utf8.first", "unicode/utf8.acceptRanges", "internal/bytealg.MaxLen"], apart := false, laid := [("unicode/utf8.acceptRanges", laid_unicode_utf8_acceptRanges), ("unicode/utf8.first", laid_unicode_utf8_first)], narrowed := true }
def FlatKeepsUptoSaid : Prop := flatKeepsUptoRow.holds Tryz.pinned (OpenSpec.upto flatKeepsSpec)

/-- 'lamellalaw19.FlatRights', WHERE WHAT IT READS IS OF BULK AT MOST 1048576: true; the input reads as it did. -/
def flatRightsUptoRow : OpenClaim := { program := "ytikjfekagdcjmaagreatdoor", sum := "38e58d1acebf0e781177f6a9ebb18ed0aca5b4ffebdcc92f87373a6a1e12edcd", func := "lamella/lamellalaw19.FlatRights", spec := "flatRights", inPlace := ["internal/bytealg.IndexByteString", "internal/bytealg.IndexString", "internal/bytealg.CountString", "slices.overlaps[lamella/api.Inode]", "internal/abi.NoEscape", "internal/bytealg.MakeNoZero"], unfollowed := true, recurses := true, named := ["unicode/utf8.first", "unicode/utf8.acceptRanges", "internal/bytealg.MaxLen"], apart := false, laid := [("unicode/utf8.acceptRanges", laid_unicode_utf8_acceptRanges), ("unicode/utf8.first", laid_unicode_utf8_first)], narrowed := true }
def FlatRightsUptoSaid : Prop := flatRightsUptoRow.holds Tryz.pinned (OpenSpec.upto flatRightsSpec)

/-- 'lamellalaw19.FlatStays', WHERE WHAT IT READS IS OF BULK AT MOST 1048576: true; the input reads as it did. -/
def flatStaysUptoRow : OpenClaim := { program := "ytikjfekagdcjmaagreatdoor", sum := "38e58d1acebf0e781177f6a9ebb18ed0aca5b4ffebdcc92f87373a6a1e12edcd", func := "lamella/lamellalaw19.FlatStays", spec := "flatStays", inPlace := ["internal/bytealg.IndexByteString", "internal/bytealg.IndexString", "internal/bytealg.CountString", "slices.overlaps[lamella/api.Inode]", "internal/abi.NoEscape", "internal/bytealg.MakeNoZero"], unfollowed := true, recurses := true, named := ["unicode/utf8.first", "unicode/utf8.acceptRanges", "internal/bytealg.MaxLen"], apart := false, laid := [("unicode/utf8.acceptRanges", laid_unicode_utf8_acceptRanges), ("unicode/utf8.first", laid_unicode_utf8_first)], narrowed := true }
def FlatStaysUptoSaid : Prop := flatStaysUptoRow.holds Tryz.pinned (OpenSpec.upto flatStaysSpec)

/-- 'lamellalaw19.FlatLeaves', WHERE WHAT IT READS IS OF BULK AT MOST 1048576: true; the input reads as it did. -/
def flatLeavesUptoRow : OpenClaim := { program := "ytikjfekagdcjmaagreatdoor", sum := "38e58d1acebf0e781177f6a9ebb18ed0aca5b4ffebdcc92f87373a6a1e12edcd", func := "lamella/lamellalaw19.FlatLeaves", spec := "flatLeaves", inPlace := ["internal/bytealg.IndexByteString", "internal/bytealg.IndexString", "internal/bytealg.CountString", "slices.overlaps[lamella/api.Inode]", "internal/abi.NoEscape", "internal/bytealg.MakeNoZero"], unfollowed := true, recurses := true, named := ["unicode/utf8.first", "unicode/utf8.acceptRanges", "internal/bytealg.MaxLen"], apart := false, laid := [("unicode/utf8.acceptRanges", laid_unicode_utf8_acceptRanges), ("unicode/utf8.first", laid_unicode_utf8_first)], narrowed := true }
def FlatLeavesUptoSaid : Prop := flatLeavesUptoRow.holds Tryz.pinned (OpenSpec.upto flatLeavesSpec)

/-- 'lamellalaw19.FlatTears', WHERE WHAT IT READS IS OF BULK AT MOST 1048576: true; the input reads as it did. -/
def flatTearsUptoRow : OpenClaim := { program := "ytikjfekagdcjmaagreatdoor", sum := "38e58d1acebf0e781177f6a9ebb18ed0aca5b4ffebdcc92f87373a6a1e12edcd", func := "lamella/lamellalaw19.FlatTears", spec := "flatTears", inPlace := ["internal/bytealg.IndexByteString", "internal/bytealg.IndexString", "internal/bytealg.CountString", "slices.overlaps[lamella/api.Inode]", "internal/abi.NoEscape", "internal/bytealg.MakeNoZero"], unfollowed := true, recurses := true, named := ["unicode/utf8.first", "unicode/utf8.acceptRanges", "internal/bytealg.MaxLen"], apart := false, laid := [("unicode/utf8.acceptRanges", laid_unicode_utf8_acceptRanges), ("unicode/utf8.first", laid_unicode_utf8_first)], narrowed := true }
def FlatTearsUptoSaid : Prop := flatTearsUptoRow.holds Tryz.pinned (OpenSpec.upto flatTearsSpec)

/-- 'lamellalaw19.FlatTorn', WHERE WHAT IT READS IS OF BULK AT MOST 1048576: true; the input reads as it did. -/
def flatTornUptoRow : OpenClaim := { program := "ytikjfekagdcjmaagreatdoor", sum := "38e58d1acebf0e781177f6a9ebb18ed0aca5b4ffebdcc92f87373a6a1e12edcd", func := "lamella/lamellalaw19.FlatTorn", spec := "flatTorn", inPlace := ["internal/bytealg.IndexByteString", "internal/bytealg.IndexString", "internal/bytealg.CountString", "slices.overlaps[lamella/api.Inode]", "internal/abi.NoEscape", "internal/bytealg.MakeNoZero"], unfollowed := true, recurses := true, named := ["unicode/utf8.first", "unicode/utf8.acceptRanges", "internal/bytealg.MaxLen"], apart := false, laid := [("unicode/utf8.acceptRanges", laid_unicode_utf8_acceptRanges), ("unicode/utf8.first", laid_unicode_utf8_first)], narrowed := true }
def FlatTornUptoSaid : Prop := flatTornUptoRow.holds Tryz.pinned (OpenSpec.upto flatTornSpec)

end Rows
end Go.Proofs.YtikjfekagdcjmaaGreatDoor
