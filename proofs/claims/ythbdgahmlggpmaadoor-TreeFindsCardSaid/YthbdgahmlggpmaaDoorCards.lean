/-
  DERIVED. GIVEN WITH THE SEED: THE CARDS: each row of YthbdgahmlggpmaaDoorRows.lean that lists a variable, with what it lists TIED to the program's text (the seventh form; the later family's looks); each row that meets fmt, with fmt's text TOLD by the authors' own Lean function (tested against real Go, not proved from fmt's source: count such statements apart). THE CARD IS WHAT COUNTS. Prove the row's statement (the work); the ties are given (YthbdgahmlggpmaaDoorTie.lean); close each card by the builder's one call (the guide's Derived/Test/ToyasCard.lean, 'card_holds'). Laid BY PROGRAM, IN A SANDBOX (cutbox-door.mjs). By AI agents, Wed Nov 11 2026. No macro, syntax, notation, axiom, sorry.
-/
import Derived.Test.YthbdgahmlggpmaaDoorRows
import GoSem.ClaimSeven
namespace Go.Proofs.YthbdgahmlggpmaaDoor
namespace Rows

/-- THE TIED CARD OF 'lamellalaw10.TreeRenames'. -/
def treeRenamesCard : Claim7 := { stood := { row := treeRenamesRow, standIns := [], harness := (true, "da8fcb8ddbd5a905dde36e22cfafcdddf74ebe3b3da546049d8cb5b57a64c4f3"), looks := false }, kinds := [], alts := [], laidByText := true, laidKinds := [.data, .pinned], laidTests := true, laidLooks := .later }
def TreeRenamesCardSaid : Prop := Claim7.holds Tryd.pinned (.plain (OpenSpec.ofChange treeRenamesSpec)) treeRenamesCard

/-- THE TIED CARD OF 'lamellalaw10.TreeBack'. -/
def treeBackCard : Claim7 := { stood := { row := treeBackRow, standIns := [], harness := (true, "da8fcb8ddbd5a905dde36e22cfafcdddf74ebe3b3da546049d8cb5b57a64c4f3"), looks := false }, kinds := [], alts := [], laidByText := true, laidKinds := [.data, .pinned], laidTests := true, laidLooks := .later }
def TreeBackCardSaid : Prop := Claim7.holds Tryd.pinned (.plain (OpenSpec.ofChange treeBackSpec)) treeBackCard

/-- THE TIED CARD OF 'lamellalaw10.TreeRights'. -/
def treeRightsCard : Claim7 := { stood := { row := treeRightsRow, standIns := [], harness := (true, "da8fcb8ddbd5a905dde36e22cfafcdddf74ebe3b3da546049d8cb5b57a64c4f3"), looks := false }, kinds := [], alts := [], laidByText := true, laidKinds := [.data, .pinned], laidTests := true, laidLooks := .later }
def TreeRightsCardSaid : Prop := Claim7.holds Tryd.pinned (.plain (OpenSpec.ofChange treeRightsSpec)) treeRightsCard

/-- THE TIED CARD OF 'lamellalaw10.TreeSizes'. -/
def treeSizesCard : Claim7 := { stood := { row := treeSizesRow, standIns := [], harness := (true, "da8fcb8ddbd5a905dde36e22cfafcdddf74ebe3b3da546049d8cb5b57a64c4f3"), looks := false }, kinds := [], alts := [], laidByText := true, laidKinds := [.data, .pinned], laidTests := true, laidLooks := .later }
def TreeSizesCardSaid : Prop := Claim7.holds Tryd.pinned (.plain (OpenSpec.ofChange treeSizesSpec)) treeSizesCard

/-- THE TIED CARD OF 'lamellalaw10.TreeMakes'. -/
def treeMakesCard : Claim7 := { stood := { row := treeMakesRow, standIns := [], harness := (true, "da8fcb8ddbd5a905dde36e22cfafcdddf74ebe3b3da546049d8cb5b57a64c4f3"), looks := false }, kinds := [], alts := [], laidByText := true, laidKinds := [.data, .pinned], laidTests := true, laidLooks := .later }
def TreeMakesCardSaid : Prop := Claim7.holds Tryd.pinned (.plain (OpenSpec.ofChange treeMakesSpec)) treeMakesCard

/-- THE TIED CARD OF 'lamellalaw10.TreeStays'. -/
def treeStaysCard : Claim7 := { stood := { row := treeStaysRow, standIns := [], harness := (true, "da8fcb8ddbd5a905dde36e22cfafcdddf74ebe3b3da546049d8cb5b57a64c4f3"), looks := false }, kinds := [], alts := [], laidByText := true, laidKinds := [.data, .pinned], laidTests := true, laidLooks := .later }
def TreeStaysCardSaid : Prop := Claim7.holds Tryd.pinned (.plain (OpenSpec.ofChange treeStaysSpec)) treeStaysCard

/-- THE TIED CARD OF 'lamellalaw10.TreeKeeps'. -/
def treeKeepsCard : Claim7 := { stood := { row := treeKeepsRow, standIns := [], harness := (true, "da8fcb8ddbd5a905dde36e22cfafcdddf74ebe3b3da546049d8cb5b57a64c4f3"), looks := false }, kinds := [], alts := [], laidByText := true, laidKinds := [.data, .pinned], laidTests := true, laidLooks := .later }
def TreeKeepsCardSaid : Prop := Claim7.holds Tryd.pinned (.plain (OpenSpec.ofChange treeKeepsSpec)) treeKeepsCard

/-- THE TIED CARD OF 'lamellalaw10.TreeFinds'. -/
def treeFindsCard : Claim7 := { stood := { row := treeFindsRow, standIns := [], harness := (true, "da8fcb8ddbd5a905dde36e22cfafcdddf74ebe3b3da546049d8cb5b57a64c4f3"), looks := false }, kinds := [], alts := [], laidByText := true, laidKinds := [.data, .pinned], laidTests := true, laidLooks := .later }
def TreeFindsCardSaid : Prop := Claim7.holds Tryd.pinned (.plain (OpenSpec.ofChange treeFindsSpec)) treeFindsCard

/-- THE SECOND FORM's CARD OF 'lamellalaw10.TreeRenames'. -/
def treeRenamesUptoCard : Claim7 := { stood := { row := treeRenamesUptoRow, standIns := [], harness := (true, "da8fcb8ddbd5a905dde36e22cfafcdddf74ebe3b3da546049d8cb5b57a64c4f3"), looks := false }, kinds := [], alts := [], laidByText := true, laidKinds := [.data, .pinned], laidTests := true, laidLooks := .later }
def TreeRenamesUptoCardSaid : Prop := Claim7.holds Tryd.pinned (.plain (OpenSpec.upto treeRenamesSpec)) treeRenamesUptoCard

/-- THE SECOND FORM's CARD OF 'lamellalaw10.TreeBack'. -/
def treeBackUptoCard : Claim7 := { stood := { row := treeBackUptoRow, standIns := [], harness := (true, "da8fcb8ddbd5a905dde36e22cfafcdddf74ebe3b3da546049d8cb5b57a64c4f3"), looks := false }, kinds := [], alts := [], laidByText := true, laidKinds := [.data, .pinned], laidTests := true, laidLooks := .later }
def TreeBackUptoCardSaid : Prop := Claim7.holds Tryd.pinned (.plain (OpenSpec.upto treeBackSpec)) treeBackUptoCard

/-- THE SECOND FORM's CARD OF 'lamellalaw10.TreeRights'. -/
def treeRightsUptoCard : Claim7 := { stood := { row := treeRightsUptoRow, standIns := [], harness := (true, "da8fcb8ddbd5a905dde36e22cfafcdddf74ebe3b3da546049d8cb5b57a64c4f3"), looks := false }, kinds := [], alts := [], laidByText := true, laidKinds := [.data, .pinned], laidTests := true, laidLooks := .later }
def TreeRightsUptoCardSaid : Prop := Claim7.holds Tryd.pinned (.plain (OpenSpec.upto treeRightsSpec)) treeRightsUptoCard

/-- THE SECOND FORM's CARD OF 'lamellalaw10.TreeSizes'. -/
def treeSizesUptoCard : Claim7 := { stood := { row := treeSizesUptoRow, standIns := [], harness := (true, "da8fcb8ddbd5a905dde36e22cfafcdddf74ebe3b3da546049d8cb5b57a64c4f3"), looks := false }, kinds := [], alts := [], laidByText := true, laidKinds := [.data, .pinned], laidTests := true, laidLooks := .later }
def TreeSizesUptoCardSaid : Prop := Claim7.holds Tryd.pinned (.plain (OpenSpec.upto treeSizesSpec)) treeSizesUptoCard

/-- THE SECOND FORM's CARD OF 'lamellalaw10.TreeMakes'. -/
def treeMakesUptoCard : Claim7 := { stood := { row := treeMakesUptoRow, standIns := [], harness := (true, "da8fcb8ddbd5a905dde36e22cfafcdddf74ebe3b3da546049d8cb5b57a64c4f3"), looks := false }, kinds := [], alts := [], laidByText := true, laidKinds := [.data, .pinned], laidTests := true, laidLooks := .later }
def TreeMakesUptoCardSaid : Prop := Claim7.holds Tryd.pinned (.plain (OpenSpec.upto treeMakesSpec)) treeMakesUptoCard

/-- THE SECOND FORM's CARD OF 'lamellalaw10.TreeStays'. -/
def treeStaysUptoCard : Claim7 := { stood := { row := treeStaysUptoRow, standIns := [], harness := (true, "da8fcb8ddbd5a905dde36e22cfafcdddf74ebe3b3da546049d8cb5b57a64c4f3"), looks := false }, kinds := [], alts := [], laidByText := true, laidKinds := [.data, .pinned], laidTests := true, laidLooks := .later }
def TreeStaysUptoCardSaid : Prop := Claim7.holds Tryd.pinned (.plain (OpenSpec.upto treeStaysSpec)) treeStaysUptoCard

/-- THE SECOND FORM's CARD OF 'lamellalaw10.TreeKeeps'. -/
def treeKeepsUptoCard : Claim7 := { stood := { row := treeKeepsUptoRow, standIns := [], harness := (true, "da8fcb8ddbd5a905dde36e22cfafcdddf74ebe3b3da546049d8cb5b57a64c4f3"), looks := false }, kinds := [], alts := [], laidByText := true, laidKinds := [.data, .pinned], laidTests := true, laidLooks := .later }
def TreeKeepsUptoCardSaid : Prop := Claim7.holds Tryd.pinned (.plain (OpenSpec.upto treeKeepsSpec)) treeKeepsUptoCard

/-- THE SECOND FORM's CARD OF 'lamellalaw10.TreeFinds'. -/
def treeFindsUptoCard : Claim7 := { stood := { row := treeFindsUptoRow, standIns := [], harness := (true, "da8fcb8ddbd5a905dde36e22cfafcdddf74ebe3b3da546049d8cb5b57a64c4f3"), looks := false }, kinds := [], alts := [], laidByText := true, laidKinds := [.data, .pinned], laidTests := true, laidLooks := .later }
def TreeFindsUptoCardSaid : Prop := Claim7.holds Tryd.pinned (.plain (OpenSpec.upto treeFindsSpec)) treeFindsUptoCard
end Rows
end Go.Proofs.YthbdgahmlggpmaaDoor
