/-
  DERIVED. GIVEN WITH THE SEED: THE CARDS: each row of YtojnmgogigamdaaDoorRows.lean that lists a variable, with what it lists TIED to the program's text (the seventh form; the later family's looks); each row that meets fmt, with fmt's text TOLD by the authors' own Lean function (tested against real Go, not proved from fmt's source: count such statements apart). THE CARD IS WHAT COUNTS. Prove the row's statement (the work); the ties are given (YtojnmgogigamdaaDoorTie.lean); close each card by the builder's one call (the guide's Derived/Test/ToyasCard.lean, 'card_holds'). Laid BY PROGRAM, IN A SANDBOX (cutbox-door.mjs). By AI agents, Wed Nov 11 2026. No macro, syntax, notation, axiom, sorry.
-/
import Derived.Test.YtojnmgogigamdaaDoorRows
import GoSem.ClaimSeven
namespace Go.Proofs.YtojnmgogigamdaaDoor
namespace Rows

/-- THE TIED CARD OF 'lamellalaw07.PagesRight'. -/
def pagesRightCard : Claim7 := { stood := { row := pagesRightRow, standIns := [], harness := (true, "ddae6f96fab5f6afdd5da7a0357419246eb0699cb3fb06020a0073cb92e99d90"), looks := false }, kinds := [], alts := [], laidByText := true, laidKinds := [.data, .pinned], laidTests := true, laidLooks := .later }
def PagesRightCardSaid : Prop := Claim7.holds Tryd.pinned (.plain (OpenSpec.ofChange pagesRightSpec)) pagesRightCard

/-- THE TIED CARD OF 'lamellalaw07.PagesPut'. -/
def pagesPutCard : Claim7 := { stood := { row := pagesPutRow, standIns := [], harness := (true, "ddae6f96fab5f6afdd5da7a0357419246eb0699cb3fb06020a0073cb92e99d90"), looks := false }, kinds := [], alts := [], laidByText := true, laidKinds := [.data, .pinned], laidTests := true, laidLooks := .later }
def PagesPutCardSaid : Prop := Claim7.holds Tryd.pinned (.plain (OpenSpec.ofChange pagesPutSpec)) pagesPutCard

/-- THE TIED CARD OF 'lamellalaw07.PagesThere'. -/
def pagesThereCard : Claim7 := { stood := { row := pagesThereRow, standIns := [], harness := (true, "ddae6f96fab5f6afdd5da7a0357419246eb0699cb3fb06020a0073cb92e99d90"), looks := false }, kinds := [], alts := [], laidByText := true, laidKinds := [.data, .pinned], laidTests := true, laidLooks := .later }
def PagesThereCardSaid : Prop := Claim7.holds Tryd.pinned (.plain (OpenSpec.ofChange pagesThereSpec)) pagesThereCard

/-- THE TIED CARD OF 'lamellalaw07.PagesCut'. -/
def pagesCutCard : Claim7 := { stood := { row := pagesCutRow, standIns := [], harness := (true, "ddae6f96fab5f6afdd5da7a0357419246eb0699cb3fb06020a0073cb92e99d90"), looks := false }, kinds := [], alts := [], laidByText := true, laidKinds := [.data, .pinned], laidTests := true, laidLooks := .later }
def PagesCutCardSaid : Prop := Claim7.holds Tryd.pinned (.plain (OpenSpec.ofChange pagesCutSpec)) pagesCutCard

/-- THE TIED CARD OF 'lamellalaw07.PagesOver'. -/
def pagesOverCard : Claim7 := { stood := { row := pagesOverRow, standIns := [], harness := (true, "ddae6f96fab5f6afdd5da7a0357419246eb0699cb3fb06020a0073cb92e99d90"), looks := false }, kinds := [], alts := [], laidByText := true, laidKinds := [.data, .pinned], laidTests := true, laidLooks := .later }
def PagesOverCardSaid : Prop := Claim7.holds Tryd.pinned (.plain (OpenSpec.ofChange pagesOverSpec)) pagesOverCard

/-- THE TIED CARD OF 'lamellalaw07.PagesKeeps'. -/
def pagesKeepsCard : Claim7 := { stood := { row := pagesKeepsRow, standIns := [], harness := (true, "ddae6f96fab5f6afdd5da7a0357419246eb0699cb3fb06020a0073cb92e99d90"), looks := false }, kinds := [], alts := [], laidByText := true, laidKinds := [.data, .pinned], laidTests := true, laidLooks := .later }
def PagesKeepsCardSaid : Prop := Claim7.holds Tryd.pinned (.plain (OpenSpec.ofChange pagesKeepsSpec)) pagesKeepsCard

/-- THE TIED CARD OF 'lamellalaw07.PagesRows'. -/
def pagesRowsCard : Claim7 := { stood := { row := pagesRowsRow, standIns := [], harness := (true, "ddae6f96fab5f6afdd5da7a0357419246eb0699cb3fb06020a0073cb92e99d90"), looks := false }, kinds := [], alts := [], laidByText := true, laidKinds := [.data, .pinned], laidTests := true, laidLooks := .later }
def PagesRowsCardSaid : Prop := Claim7.holds Tryd.pinned (.plain (OpenSpec.ofChange pagesRowsSpec)) pagesRowsCard

/-- THE SECOND FORM's CARD OF 'lamellalaw07.PagesRight'. -/
def pagesRightUptoCard : Claim7 := { stood := { row := pagesRightUptoRow, standIns := [], harness := (true, "ddae6f96fab5f6afdd5da7a0357419246eb0699cb3fb06020a0073cb92e99d90"), looks := false }, kinds := [], alts := [], laidByText := true, laidKinds := [.data, .pinned], laidTests := true, laidLooks := .later }
def PagesRightUptoCardSaid : Prop := Claim7.holds Tryd.pinned (.plain (OpenSpec.upto pagesRightSpec)) pagesRightUptoCard

/-- THE SECOND FORM's CARD OF 'lamellalaw07.PagesPut'. -/
def pagesPutUptoCard : Claim7 := { stood := { row := pagesPutUptoRow, standIns := [], harness := (true, "ddae6f96fab5f6afdd5da7a0357419246eb0699cb3fb06020a0073cb92e99d90"), looks := false }, kinds := [], alts := [], laidByText := true, laidKinds := [.data, .pinned], laidTests := true, laidLooks := .later }
def PagesPutUptoCardSaid : Prop := Claim7.holds Tryd.pinned (.plain (OpenSpec.upto pagesPutSpec)) pagesPutUptoCard

/-- THE SECOND FORM's CARD OF 'lamellalaw07.PagesThere'. -/
def pagesThereUptoCard : Claim7 := { stood := { row := pagesThereUptoRow, standIns := [], harness := (true, "ddae6f96fab5f6afdd5da7a0357419246eb0699cb3fb06020a0073cb92e99d90"), looks := false }, kinds := [], alts := [], laidByText := true, laidKinds := [.data, .pinned], laidTests := true, laidLooks := .later }
def PagesThereUptoCardSaid : Prop := Claim7.holds Tryd.pinned (.plain (OpenSpec.upto pagesThereSpec)) pagesThereUptoCard

/-- THE SECOND FORM's CARD OF 'lamellalaw07.PagesCut'. -/
def pagesCutUptoCard : Claim7 := { stood := { row := pagesCutUptoRow, standIns := [], harness := (true, "ddae6f96fab5f6afdd5da7a0357419246eb0699cb3fb06020a0073cb92e99d90"), looks := false }, kinds := [], alts := [], laidByText := true, laidKinds := [.data, .pinned], laidTests := true, laidLooks := .later }
def PagesCutUptoCardSaid : Prop := Claim7.holds Tryd.pinned (.plain (OpenSpec.upto pagesCutSpec)) pagesCutUptoCard

/-- THE SECOND FORM's CARD OF 'lamellalaw07.PagesOver'. -/
def pagesOverUptoCard : Claim7 := { stood := { row := pagesOverUptoRow, standIns := [], harness := (true, "ddae6f96fab5f6afdd5da7a0357419246eb0699cb3fb06020a0073cb92e99d90"), looks := false }, kinds := [], alts := [], laidByText := true, laidKinds := [.data, .pinned], laidTests := true, laidLooks := .later }
def PagesOverUptoCardSaid : Prop := Claim7.holds Tryd.pinned (.plain (OpenSpec.upto pagesOverSpec)) pagesOverUptoCard

/-- THE SECOND FORM's CARD OF 'lamellalaw07.PagesKeeps'. -/
def pagesKeepsUptoCard : Claim7 := { stood := { row := pagesKeepsUptoRow, standIns := [], harness := (true, "ddae6f96fab5f6afdd5da7a0357419246eb0699cb3fb06020a0073cb92e99d90"), looks := false }, kinds := [], alts := [], laidByText := true, laidKinds := [.data, .pinned], laidTests := true, laidLooks := .later }
def PagesKeepsUptoCardSaid : Prop := Claim7.holds Tryd.pinned (.plain (OpenSpec.upto pagesKeepsSpec)) pagesKeepsUptoCard

/-- THE SECOND FORM's CARD OF 'lamellalaw07.PagesRows'. -/
def pagesRowsUptoCard : Claim7 := { stood := { row := pagesRowsUptoRow, standIns := [], harness := (true, "ddae6f96fab5f6afdd5da7a0357419246eb0699cb3fb06020a0073cb92e99d90"), looks := false }, kinds := [], alts := [], laidByText := true, laidKinds := [.data, .pinned], laidTests := true, laidLooks := .later }
def PagesRowsUptoCardSaid : Prop := Claim7.holds Tryd.pinned (.plain (OpenSpec.upto pagesRowsSpec)) pagesRowsUptoCard
end Rows
end Go.Proofs.YtojnmgogigamdaaDoor
