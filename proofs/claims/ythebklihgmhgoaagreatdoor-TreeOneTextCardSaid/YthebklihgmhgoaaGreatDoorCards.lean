/-
  DERIVED. GIVEN WITH THE SEED: THE CARDS: each row of YthebklihgmhgoaaGreatDoorRows.lean that lists a variable, with what it lists TIED to the program's text (the seventh form; the later family's looks); each row that meets fmt, with fmt's text TOLD by the authors' own Lean function (tested against real Go, not proved from fmt's source: count such statements apart). THE CARD IS WHAT COUNTS. Prove the row's statement (the work); the ties are given (YthebklihgmhgoaaGreatDoorTie.lean); close each card by the builder's one call (the guide's Derived/Test/ToyasCard.lean, 'card_holds'). Laid BY PROGRAM, IN A SANDBOX (cutbox-door.mjs). By AI agents, Wed Nov 11 2026. No macro, syntax, notation, axiom, sorry.
-/
import Derived.Test.YthebklihgmhgoaaGreatDoorRows
import GoSem.ClaimSeven
namespace Go.Proofs.YthebklihgmhgoaaGreatDoor
namespace Rows

/-- THE TIED CARD OF 'stutterlaw02.TreeChecks'. -/
def treeChecksCard : Claim7 := { stood := { row := treeChecksRow, standIns := [], harness := (true, "44404c26b176dbe378b5785672504d175f1ea932b71de39f029d83d6b8540ebd"), looks := false }, kinds := [], alts := [], laidByText := true, laidKinds := [.data, .data, .data, .listed, .data], laidTests := true, laidLooks := .later }
def TreeChecksCardSaid : Prop := Claim7.holds Tryz.pinned (.plain (OpenSpec.ofChange treeChecksSpec)) treeChecksCard

/-- THE TIED CARD OF 'stutterlaw02.TreeFormats'. -/
def treeFormatsCard : Claim7 := { stood := { row := treeFormatsRow, standIns := [], harness := (true, "44404c26b176dbe378b5785672504d175f1ea932b71de39f029d83d6b8540ebd"), looks := false }, kinds := [], alts := [], laidByText := true, laidKinds := [.data, .data, .data, .listed, .data], laidTests := true, laidLooks := .later }
def TreeFormatsCardSaid : Prop := Claim7.holds Tryz.pinned (.plain (OpenSpec.ofChange treeFormatsSpec)) treeFormatsCard

/-- THE TIED CARD OF 'stutterlaw02.TreeOneText'. -/
def treeOneTextCard : Claim7 := { stood := { row := treeOneTextRow, standIns := [], harness := (true, "44404c26b176dbe378b5785672504d175f1ea932b71de39f029d83d6b8540ebd"), looks := false }, kinds := [], alts := [], laidByText := true, laidKinds := [.data, .data, .data, .listed, .data], laidTests := true, laidLooks := .later }
def TreeOneTextCardSaid : Prop := Claim7.holds Tryz.pinned (.plain (OpenSpec.ofChange treeOneTextSpec)) treeOneTextCard

/-- THE TIED CARD OF 'stutterlaw02.TreeOperators'. -/
def treeOperatorsCard : Claim7 := { stood := { row := treeOperatorsRow, standIns := [], harness := (true, "44404c26b176dbe378b5785672504d175f1ea932b71de39f029d83d6b8540ebd"), looks := false }, kinds := [], alts := [], laidByText := true, laidKinds := [.data, .data, .data, .listed, .data], laidTests := true, laidLooks := .later }
def TreeOperatorsCardSaid : Prop := Claim7.holds Tryz.pinned (.plain (OpenSpec.ofChange treeOperatorsSpec)) treeOperatorsCard

/-- THE TIED CARD OF 'stutterlaw02.TreeNames'. -/
def treeNamesCard : Claim7 := { stood := { row := treeNamesRow, standIns := [], harness := (true, "44404c26b176dbe378b5785672504d175f1ea932b71de39f029d83d6b8540ebd"), looks := false }, kinds := [], alts := [], laidByText := true, laidKinds := [.data, .data, .data, .listed, .data], laidTests := true, laidLooks := .later }
def TreeNamesCardSaid : Prop := Claim7.holds Tryz.pinned (.plain (OpenSpec.ofChange treeNamesSpec)) treeNamesCard

/-- THE TIED CARD OF 'stutterlaw02.TreeBack'. -/
def treeBackCard : Claim7 := { stood := { row := treeBackRow, standIns := [], harness := (true, "44404c26b176dbe378b5785672504d175f1ea932b71de39f029d83d6b8540ebd"), looks := false }, kinds := [], alts := [], laidByText := true, laidKinds := [.data, .data, .data, .listed, .data], laidTests := true, laidLooks := .later }
def TreeBackCardSaid : Prop := Claim7.holds Tryz.pinned (.plain (OpenSpec.ofChange treeBackSpec)) treeBackCard

/-- THE TIED CARD OF 'stutterlaw02.TreeChanges'. -/
def treeChangesCard : Claim7 := { stood := { row := treeChangesRow, standIns := [], harness := (true, "44404c26b176dbe378b5785672504d175f1ea932b71de39f029d83d6b8540ebd"), looks := false }, kinds := [], alts := [], laidByText := true, laidKinds := [.data, .data, .data, .listed, .data], laidTests := true, laidLooks := .later }
def TreeChangesCardSaid : Prop := Claim7.holds Tryz.pinned (.plain (OpenSpec.ofChange treeChangesSpec)) treeChangesCard

/-- THE TIED CARD OF 'stutterlaw02.TreeAlike'. -/
def treeAlikeCard : Claim7 := { stood := { row := treeAlikeRow, standIns := [], harness := (true, "44404c26b176dbe378b5785672504d175f1ea932b71de39f029d83d6b8540ebd"), looks := false }, kinds := [], alts := [], laidByText := true, laidKinds := [.data, .data, .data, .listed, .data], laidTests := true, laidLooks := .later }
def TreeAlikeCardSaid : Prop := Claim7.holds Tryz.pinned (.plain (OpenSpec.ofChange treeAlikeSpec)) treeAlikeCard

/-- THE TIED CARD OF 'stutterlaw02.TreeCanonical'. -/
def treeCanonicalCard : Claim7 := { stood := { row := treeCanonicalRow, standIns := [], harness := (true, "44404c26b176dbe378b5785672504d175f1ea932b71de39f029d83d6b8540ebd"), looks := false }, kinds := [], alts := [], laidByText := true, laidKinds := [.data, .data, .data, .listed, .data], laidTests := true, laidLooks := .later }
def TreeCanonicalCardSaid : Prop := Claim7.holds Tryz.pinned (.plain (OpenSpec.ofChange treeCanonicalSpec)) treeCanonicalCard

/-- THE SECOND FORM's CARD OF 'stutterlaw02.TreeChecks'. -/
def treeChecksUptoCard : Claim7 := { stood := { row := treeChecksUptoRow, standIns := [], harness := (true, "44404c26b176dbe378b5785672504d175f1ea932b71de39f029d83d6b8540ebd"), looks := false }, kinds := [], alts := [], laidByText := true, laidKinds := [.data, .data, .data, .listed, .data], laidTests := true, laidLooks := .later }
def TreeChecksUptoCardSaid : Prop := Claim7.holds Tryz.pinned (.plain (OpenSpec.upto treeChecksSpec)) treeChecksUptoCard

/-- THE SECOND FORM's CARD OF 'stutterlaw02.TreeFormats'. -/
def treeFormatsUptoCard : Claim7 := { stood := { row := treeFormatsUptoRow, standIns := [], harness := (true, "44404c26b176dbe378b5785672504d175f1ea932b71de39f029d83d6b8540ebd"), looks := false }, kinds := [], alts := [], laidByText := true, laidKinds := [.data, .data, .data, .listed, .data], laidTests := true, laidLooks := .later }
def TreeFormatsUptoCardSaid : Prop := Claim7.holds Tryz.pinned (.plain (OpenSpec.upto treeFormatsSpec)) treeFormatsUptoCard

/-- THE SECOND FORM's CARD OF 'stutterlaw02.TreeOneText'. -/
def treeOneTextUptoCard : Claim7 := { stood := { row := treeOneTextUptoRow, standIns := [], harness := (true, "44404c26b176dbe378b5785672504d175f1ea932b71de39f029d83d6b8540ebd"), looks := false }, kinds := [], alts := [], laidByText := true, laidKinds := [.data, .data, .data, .listed, .data], laidTests := true, laidLooks := .later }
def TreeOneTextUptoCardSaid : Prop := Claim7.holds Tryz.pinned (.plain (OpenSpec.upto treeOneTextSpec)) treeOneTextUptoCard

/-- THE SECOND FORM's CARD OF 'stutterlaw02.TreeOperators'. -/
def treeOperatorsUptoCard : Claim7 := { stood := { row := treeOperatorsUptoRow, standIns := [], harness := (true, "44404c26b176dbe378b5785672504d175f1ea932b71de39f029d83d6b8540ebd"), looks := false }, kinds := [], alts := [], laidByText := true, laidKinds := [.data, .data, .data, .listed, .data], laidTests := true, laidLooks := .later }
def TreeOperatorsUptoCardSaid : Prop := Claim7.holds Tryz.pinned (.plain (OpenSpec.upto treeOperatorsSpec)) treeOperatorsUptoCard

/-- THE SECOND FORM's CARD OF 'stutterlaw02.TreeNames'. -/
def treeNamesUptoCard : Claim7 := { stood := { row := treeNamesUptoRow, standIns := [], harness := (true, "44404c26b176dbe378b5785672504d175f1ea932b71de39f029d83d6b8540ebd"), looks := false }, kinds := [], alts := [], laidByText := true, laidKinds := [.data, .data, .data, .listed, .data], laidTests := true, laidLooks := .later }
def TreeNamesUptoCardSaid : Prop := Claim7.holds Tryz.pinned (.plain (OpenSpec.upto treeNamesSpec)) treeNamesUptoCard

/-- THE SECOND FORM's CARD OF 'stutterlaw02.TreeBack'. -/
def treeBackUptoCard : Claim7 := { stood := { row := treeBackUptoRow, standIns := [], harness := (true, "44404c26b176dbe378b5785672504d175f1ea932b71de39f029d83d6b8540ebd"), looks := false }, kinds := [], alts := [], laidByText := true, laidKinds := [.data, .data, .data, .listed, .data], laidTests := true, laidLooks := .later }
def TreeBackUptoCardSaid : Prop := Claim7.holds Tryz.pinned (.plain (OpenSpec.upto treeBackSpec)) treeBackUptoCard

/-- THE SECOND FORM's CARD OF 'stutterlaw02.TreeChanges'. -/
def treeChangesUptoCard : Claim7 := { stood := { row := treeChangesUptoRow, standIns := [], harness := (true, "44404c26b176dbe378b5785672504d175f1ea932b71de39f029d83d6b8540ebd"), looks := false }, kinds := [], alts := [], laidByText := true, laidKinds := [.data, .data, .data, .listed, .data], laidTests := true, laidLooks := .later }
def TreeChangesUptoCardSaid : Prop := Claim7.holds Tryz.pinned (.plain (OpenSpec.upto treeChangesSpec)) treeChangesUptoCard

/-- THE SECOND FORM's CARD OF 'stutterlaw02.TreeAlike'. -/
def treeAlikeUptoCard : Claim7 := { stood := { row := treeAlikeUptoRow, standIns := [], harness := (true, "44404c26b176dbe378b5785672504d175f1ea932b71de39f029d83d6b8540ebd"), looks := false }, kinds := [], alts := [], laidByText := true, laidKinds := [.data, .data, .data, .listed, .data], laidTests := true, laidLooks := .later }
def TreeAlikeUptoCardSaid : Prop := Claim7.holds Tryz.pinned (.plain (OpenSpec.upto treeAlikeSpec)) treeAlikeUptoCard

/-- THE SECOND FORM's CARD OF 'stutterlaw02.TreeCanonical'. -/
def treeCanonicalUptoCard : Claim7 := { stood := { row := treeCanonicalUptoRow, standIns := [], harness := (true, "44404c26b176dbe378b5785672504d175f1ea932b71de39f029d83d6b8540ebd"), looks := false }, kinds := [], alts := [], laidByText := true, laidKinds := [.data, .data, .data, .listed, .data], laidTests := true, laidLooks := .later }
def TreeCanonicalUptoCardSaid : Prop := Claim7.holds Tryz.pinned (.plain (OpenSpec.upto treeCanonicalSpec)) treeCanonicalUptoCard
end Rows
end Go.Proofs.YthebklihgmhgoaaGreatDoor
