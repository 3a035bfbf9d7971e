/-
  DERIVED. GIVEN WITH THE SEED: THE CARDS: each row of YtikjfekagdcjmaaGreatDoorRows.lean that lists a variable, with what it lists TIED to the program's text (the seventh form; the later family's looks); each row that meets fmt, with fmt's text TOLD by the authors' own Lean function (tested against real Go, not proved from fmt's source: count such statements apart). THE CARD IS WHAT COUNTS. Prove the row's statement (the work); the ties are given (YtikjfekagdcjmaaGreatDoorTie.lean); close each card by the builder's one call (the guide's Derived/Test/ToyasCard.lean, 'card_holds'). Laid BY PROGRAM, IN A SANDBOX (cutbox-door.mjs). By AI agents, Wed Nov 11 2026. No macro, syntax, notation, axiom, sorry.
-/
import Derived.Test.YtikjfekagdcjmaaGreatDoorRows
import GoSem.ClaimSeven
namespace Go.Proofs.YtikjfekagdcjmaaGreatDoor
namespace Rows

/-- THE TIED CARD OF 'lamellalaw22.AuditOnce'. -/
def auditOnceCard : Claim7 := { stood := { row := auditOnceRow, standIns := [], harness := (true, "7486275c108cfae6f058d39f28f80d7069aae1545376d03188310250eaa7fce5"), looks := false }, kinds := [], alts := [], laidByText := true, laidKinds := [.data, .pinned], laidTests := true, laidLooks := .later }
def AuditOnceCardSaid : Prop := Claim7.holds Tryz.pinned (.plain (OpenSpec.ofChange auditOnceSpec)) auditOnceCard

/-- THE TIED CARD OF 'lamellalaw22.AuditAlone'. -/
def auditAloneCard : Claim7 := { stood := { row := auditAloneRow, standIns := [], harness := (true, "7486275c108cfae6f058d39f28f80d7069aae1545376d03188310250eaa7fce5"), looks := false }, kinds := [], alts := [], laidByText := true, laidKinds := [.data, .pinned], laidTests := true, laidLooks := .later }
def AuditAloneCardSaid : Prop := Claim7.holds Tryz.pinned (.plain (OpenSpec.ofChange auditAloneSpec)) auditAloneCard

/-- THE TIED CARD OF 'lamellalaw22.AuditFiles'. -/
def auditFilesCard : Claim7 := { stood := { row := auditFilesRow, standIns := [], harness := (true, "7486275c108cfae6f058d39f28f80d7069aae1545376d03188310250eaa7fce5"), looks := false }, kinds := [], alts := [], laidByText := true, laidKinds := [.data, .pinned], laidTests := true, laidLooks := .later }
def AuditFilesCardSaid : Prop := Claim7.holds Tryz.pinned (.plain (OpenSpec.ofChange auditFilesSpec)) auditFilesCard

/-- THE TIED CARD OF 'lamellalaw14.LedgerBack'. -/
def ledgerBackCard : Claim7 := { stood := { row := ledgerBackRow, standIns := [], harness := (true, "7486275c108cfae6f058d39f28f80d7069aae1545376d03188310250eaa7fce5"), looks := false }, kinds := [], alts := [], laidByText := true, laidKinds := [.data, .pinned], laidTests := true, laidLooks := .later }
def LedgerBackCardSaid : Prop := Claim7.holds Tryz.pinned (.plain (OpenSpec.ofChange ledgerBackSpec)) ledgerBackCard

/-- THE TIED CARD OF 'lamellalaw19.FlatDoes'. -/
def flatDoesCard : Claim7 := { stood := { row := flatDoesRow, standIns := [], harness := (true, "7486275c108cfae6f058d39f28f80d7069aae1545376d03188310250eaa7fce5"), looks := false }, kinds := [], alts := [], laidByText := true, laidKinds := [.data, .pinned], laidTests := true, laidLooks := .later }
def FlatDoesCardSaid : Prop := Claim7.holds Tryz.pinned (.plain (OpenSpec.ofChange flatDoesSpec)) flatDoesCard

/-- THE TIED CARD OF 'lamellalaw19.FlatReads'. -/
def flatReadsCard : Claim7 := { stood := { row := flatReadsRow, standIns := [], harness := (true, "7486275c108cfae6f058d39f28f80d7069aae1545376d03188310250eaa7fce5"), looks := false }, kinds := [], alts := [], laidByText := true, laidKinds := [.data, .pinned], laidTests := true, laidLooks := .later }
def FlatReadsCardSaid : Prop := Claim7.holds Tryz.pinned (.plain (OpenSpec.ofChange flatReadsSpec)) flatReadsCard

/-- THE TIED CARD OF 'lamellalaw19.FlatKeeps'. -/
def flatKeepsCard : Claim7 := { stood := { row := flatKeepsRow, standIns := [], harness := (true, "7486275c108cfae6f058d39f28f80d7069aae1545376d03188310250eaa7fce5"), looks := false }, kinds := [], alts := [], laidByText := true, laidKinds := [.data, .pinned], laidTests := true, laidLooks := .later }
def FlatKeepsCardSaid : Prop := Claim7.holds Tryz.pinned (.plain (OpenSpec.ofChange flatKeepsSpec)) flatKeepsCard

/-- THE TIED CARD OF 'lamellalaw19.FlatRights'. -/
def flatRightsCard : Claim7 := { stood := { row := flatRightsRow, standIns := [], harness := (true, "7486275c108cfae6f058d39f28f80d7069aae1545376d03188310250eaa7fce5"), looks := false }, kinds := [], alts := [], laidByText := true, laidKinds := [.data, .pinned], laidTests := true, laidLooks := .later }
def FlatRightsCardSaid : Prop := Claim7.holds Tryz.pinned (.plain (OpenSpec.ofChange flatRightsSpec)) flatRightsCard

/-- THE TIED CARD OF 'lamellalaw19.FlatStays'. -/
def flatStaysCard : Claim7 := { stood := { row := flatStaysRow, standIns := [], harness := (true, "7486275c108cfae6f058d39f28f80d7069aae1545376d03188310250eaa7fce5"), looks := false }, kinds := [], alts := [], laidByText := true, laidKinds := [.data, .pinned], laidTests := true, laidLooks := .later }
def FlatStaysCardSaid : Prop := Claim7.holds Tryz.pinned (.plain (OpenSpec.ofChange flatStaysSpec)) flatStaysCard

/-- THE TIED CARD OF 'lamellalaw19.FlatLeaves'. -/
def flatLeavesCard : Claim7 := { stood := { row := flatLeavesRow, standIns := [], harness := (true, "7486275c108cfae6f058d39f28f80d7069aae1545376d03188310250eaa7fce5"), looks := false }, kinds := [], alts := [], laidByText := true, laidKinds := [.data, .pinned], laidTests := true, laidLooks := .later }
def FlatLeavesCardSaid : Prop := Claim7.holds Tryz.pinned (.plain (OpenSpec.ofChange flatLeavesSpec)) flatLeavesCard

/-- THE TIED CARD OF 'lamellalaw19.FlatTears'. -/
def flatTearsCard : Claim7 := { stood := { row := flatTearsRow, standIns := [], harness := (true, "7486275c108cfae6f058d39f28f80d7069aae1545376d03188310250eaa7fce5"), looks := false }, kinds := [], alts := [], laidByText := true, laidKinds := [.data, .pinned], laidTests := true, laidLooks := .later }
def FlatTearsCardSaid : Prop := Claim7.holds Tryz.pinned (.plain (OpenSpec.ofChange flatTearsSpec)) flatTearsCard

/-- THE TIED CARD OF 'lamellalaw19.FlatTorn'. -/
def flatTornCard : Claim7 := { stood := { row := flatTornRow, standIns := [], harness := (true, "7486275c108cfae6f058d39f28f80d7069aae1545376d03188310250eaa7fce5"), looks := false }, kinds := [], alts := [], laidByText := true, laidKinds := [.data, .pinned], laidTests := true, laidLooks := .later }
def FlatTornCardSaid : Prop := Claim7.holds Tryz.pinned (.plain (OpenSpec.ofChange flatTornSpec)) flatTornCard

/-- THE SECOND FORM's CARD OF 'lamellalaw22.AuditOnce'. -/
def auditOnceUptoCard : Claim7 := { stood := { row := auditOnceUptoRow, standIns := [], harness := (true, "7486275c108cfae6f058d39f28f80d7069aae1545376d03188310250eaa7fce5"), looks := false }, kinds := [], alts := [], laidByText := true, laidKinds := [.data, .pinned], laidTests := true, laidLooks := .later }
def AuditOnceUptoCardSaid : Prop := Claim7.holds Tryz.pinned (.plain (OpenSpec.upto auditOnceSpec)) auditOnceUptoCard

/-- THE SECOND FORM's CARD OF 'lamellalaw22.AuditAlone'. -/
def auditAloneUptoCard : Claim7 := { stood := { row := auditAloneUptoRow, standIns := [], harness := (true, "7486275c108cfae6f058d39f28f80d7069aae1545376d03188310250eaa7fce5"), looks := false }, kinds := [], alts := [], laidByText := true, laidKinds := [.data, .pinned], laidTests := true, laidLooks := .later }
def AuditAloneUptoCardSaid : Prop := Claim7.holds Tryz.pinned (.plain (OpenSpec.upto auditAloneSpec)) auditAloneUptoCard

/-- THE SECOND FORM's CARD OF 'lamellalaw22.AuditFiles'. -/
def auditFilesUptoCard : Claim7 := { stood := { row := auditFilesUptoRow, standIns := [], harness := (true, "7486275c108cfae6f058d39f28f80d7069aae1545376d03188310250eaa7fce5"), looks := false }, kinds := [], alts := [], laidByText := true, laidKinds := [.data, .pinned], laidTests := true, laidLooks := .later }
def AuditFilesUptoCardSaid : Prop := Claim7.holds Tryz.pinned (.plain (OpenSpec.upto auditFilesSpec)) auditFilesUptoCard

/-- THE SECOND FORM's CARD OF 'lamellalaw14.LedgerBack'. -/
def ledgerBackUptoCard : Claim7 := { stood := { row := ledgerBackUptoRow, standIns := [], harness := (true, "7486275c108cfae6f058d39f28f80d7069aae1545376d03188310250eaa7fce5"), looks := false }, kinds := [], alts := [], laidByText := true, laidKinds := [.data, .pinned], laidTests := true, laidLooks := .later }
def LedgerBackUptoCardSaid : Prop := Claim7.holds Tryz.pinned (.plain (OpenSpec.upto ledgerBackSpec)) ledgerBackUptoCard

/-- THE SECOND FORM's CARD OF 'lamellalaw19.FlatDoes'. -/
def flatDoesUptoCard : Claim7 := { stood := { row := flatDoesUptoRow, standIns := [], harness := (true, "7486275c108cfae6f058d39f28f80d7069aae1545376d03188310250eaa7fce5"), looks := false }, kinds := [], alts := [], laidByText := true, laidKinds := [.data, .pinned], laidTests := true, laidLooks := .later }
def FlatDoesUptoCardSaid : Prop := Claim7.holds Tryz.pinned (.plain (OpenSpec.upto flatDoesSpec)) flatDoesUptoCard

/-- THE SECOND FORM's CARD OF 'lamellalaw19.FlatReads'. -/
def flatReadsUptoCard : Claim7 := { stood := { row := flatReadsUptoRow, standIns := [], harness := (true, "7486275c108cfae6f058d39f28f80d7069aae1545376d03188310250eaa7fce5"), looks := false }, kinds := [], alts := [], laidByText := true, laidKinds := [.data, .pinned], laidTests := true, laidLooks := .later }
def FlatReadsUptoCardSaid : Prop := Claim7.holds Tryz.pinned (.plain (OpenSpec.upto flatReadsSpec)) flatReadsUptoCard

/-- THE SECOND FORM's CARD OF 'lamellalaw19.FlatKeeps'. -/
def flatKeepsUptoCard : Claim7 := { stood := { row := flatKeepsUptoRow, standIns := [], harness := (true, "7486275c108cfae6f058d39f28f80d7069aae1545376d03188310250eaa7fce5"), looks := false }, kinds := [], alts := [], laidByText := true, laidKinds := [.data, .pinned], laidTests := true, laidLooks := .later }
def FlatKeepsUptoCardSaid : Prop := Claim7.holds Tryz.pinned (.plain (OpenSpec.upto flatKeepsSpec)) flatKeepsUptoCard

/-- THE SECOND FORM's CARD OF 'lamellalaw19.FlatRights'. -/
def flatRightsUptoCard : Claim7 := { stood := { row := flatRightsUptoRow, standIns := [], harness := (true, "7486275c108cfae6f058d39f28f80d7069aae1545376d03188310250eaa7fce5"), looks := false }, kinds := [], alts := [], laidByText := true, laidKinds := [.data, .pinned], laidTests := true, laidLooks := .later }
def FlatRightsUptoCardSaid : Prop := Claim7.holds Tryz.pinned (.plain (OpenSpec.upto flatRightsSpec)) flatRightsUptoCard

/-- THE SECOND FORM's CARD OF 'lamellalaw19.FlatStays'. -/
def flatStaysUptoCard : Claim7 := { stood := { row := flatStaysUptoRow, standIns := [], harness := (true, "7486275c108cfae6f058d39f28f80d7069aae1545376d03188310250eaa7fce5"), looks := false }, kinds := [], alts := [], laidByText := true, laidKinds := [.data, .pinned], laidTests := true, laidLooks := .later }
def FlatStaysUptoCardSaid : Prop := Claim7.holds Tryz.pinned (.plain (OpenSpec.upto flatStaysSpec)) flatStaysUptoCard

/-- THE SECOND FORM's CARD OF 'lamellalaw19.FlatLeaves'. -/
def flatLeavesUptoCard : Claim7 := { stood := { row := flatLeavesUptoRow, standIns := [], harness := (true, "7486275c108cfae6f058d39f28f80d7069aae1545376d03188310250eaa7fce5"), looks := false }, kinds := [], alts := [], laidByText := true, laidKinds := [.data, .pinned], laidTests := true, laidLooks := .later }
def FlatLeavesUptoCardSaid : Prop := Claim7.holds Tryz.pinned (.plain (OpenSpec.upto flatLeavesSpec)) flatLeavesUptoCard

/-- THE SECOND FORM's CARD OF 'lamellalaw19.FlatTears'. -/
def flatTearsUptoCard : Claim7 := { stood := { row := flatTearsUptoRow, standIns := [], harness := (true, "7486275c108cfae6f058d39f28f80d7069aae1545376d03188310250eaa7fce5"), looks := false }, kinds := [], alts := [], laidByText := true, laidKinds := [.data, .pinned], laidTests := true, laidLooks := .later }
def FlatTearsUptoCardSaid : Prop := Claim7.holds Tryz.pinned (.plain (OpenSpec.upto flatTearsSpec)) flatTearsUptoCard

/-- THE SECOND FORM's CARD OF 'lamellalaw19.FlatTorn'. -/
def flatTornUptoCard : Claim7 := { stood := { row := flatTornUptoRow, standIns := [], harness := (true, "7486275c108cfae6f058d39f28f80d7069aae1545376d03188310250eaa7fce5"), looks := false }, kinds := [], alts := [], laidByText := true, laidKinds := [.data, .pinned], laidTests := true, laidLooks := .later }
def FlatTornUptoCardSaid : Prop := Claim7.holds Tryz.pinned (.plain (OpenSpec.upto flatTornSpec)) flatTornUptoCard
end Rows
end Go.Proofs.YtikjfekagdcjmaaGreatDoor
