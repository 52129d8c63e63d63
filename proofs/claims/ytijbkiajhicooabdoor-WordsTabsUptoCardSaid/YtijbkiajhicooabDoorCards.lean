/-
  DERIVED. GIVEN WITH THE SEED: THE CARDS: each row of YtijbkiajhicooabDoorRows.lean that lists a variable, with what it lists TIED to the program's text (the seventh form; the later family's looks); each row that meets fmt, with fmt's text TOLD by the authors' own Lean function (tested against real Go, not proved from fmt's source: count such statements apart). THE CARD IS WHAT COUNTS. Prove the row's statement (the work); the ties are given (YtijbkiajhicooabDoorTie.lean); close each card by the builder's one call (the guide's Derived/Test/ToyasCard.lean, 'card_holds'). Laid BY PROGRAM, IN A SANDBOX (cutbox-door.mjs). By AI agents, Wed Nov 11 2026. No macro, syntax, notation, axiom, sorry.
-/
import Derived.Test.YtijbkiajhicooabDoorRows
import GoSem.ClaimSeven
namespace Go.Proofs.YtijbkiajhicooabDoor
namespace Rows

/-- THE TIED CARD OF 'galleylaw33.CaretsSettle'. -/
def caretsSettleCard : Claim7 := { stood := { row := caretsSettleRow, standIns := [], harness := (true, "1e74bd8054560bd914c4cf3625d13abf11471a7c1fccd5537e4c61c333a68317"), looks := false }, kinds := [], alts := [], laidByText := true, laidKinds := [.data], laidTests := true, laidLooks := .later }
def CaretsSettleCardSaid : Prop := Claim7.holds Tryd.pinned (.plain (OpenSpec.ofChange caretsSettleSpec)) caretsSettleCard

/-- THE TIED CARD OF 'galleylaw33.CaretsMove'. -/
def caretsMoveCard : Claim7 := { stood := { row := caretsMoveRow, standIns := [], harness := (true, "1e74bd8054560bd914c4cf3625d13abf11471a7c1fccd5537e4c61c333a68317"), looks := false }, kinds := [], alts := [], laidByText := true, laidKinds := [.data], laidTests := true, laidLooks := .later }
def CaretsMoveCardSaid : Prop := Claim7.holds Tryd.pinned (.plain (OpenSpec.ofChange caretsMoveSpec)) caretsMoveCard

/-- THE TIED CARD OF 'galleylaw22.WordsRuns'. -/
def wordsRunsCard : Claim7 := { stood := { row := wordsRunsRow, standIns := [], harness := (true, "1e74bd8054560bd914c4cf3625d13abf11471a7c1fccd5537e4c61c333a68317"), looks := false }, kinds := [], alts := [], laidByText := true, laidKinds := [.data], laidTests := true, laidLooks := .later }
def WordsRunsCardSaid : Prop := Claim7.holds Tryd.pinned (.plain (OpenSpec.ofChange wordsRunsSpec)) wordsRunsCard

/-- THE TIED CARD OF 'galleylaw22.WordsTabs'. -/
def wordsTabsCard : Claim7 := { stood := { row := wordsTabsRow, standIns := [], harness := (true, "1e74bd8054560bd914c4cf3625d13abf11471a7c1fccd5537e4c61c333a68317"), looks := false }, kinds := [], alts := [], laidByText := true, laidKinds := [.data], laidTests := true, laidLooks := .later }
def WordsTabsCardSaid : Prop := Claim7.holds Tryd.pinned (.plain (OpenSpec.ofChange wordsTabsSpec)) wordsTabsCard

/-- THE TIED CARD OF 'galleylaw33.CaretsNames'. -/
def caretsNamesCard : Claim7 := { stood := { row := caretsNamesRow, standIns := [], harness := (true, "1e74bd8054560bd914c4cf3625d13abf11471a7c1fccd5537e4c61c333a68317"), looks := false }, kinds := [], alts := [], laidByText := true, laidKinds := [.data], laidTests := true, laidLooks := .later }
def CaretsNamesCardSaid : Prop := Claim7.holds Tryd.pinned (.plain (OpenSpec.ofChange caretsNamesSpec)) caretsNamesCard

/-- THE TIED CARD OF 'galleylaw33.CaretsMemory'. -/
def caretsMemoryCard : Claim7 := { stood := { row := caretsMemoryRow, standIns := [], harness := (true, "1e74bd8054560bd914c4cf3625d13abf11471a7c1fccd5537e4c61c333a68317"), looks := false }, kinds := [], alts := [], laidByText := true, laidKinds := [.data], laidTests := true, laidLooks := .later }
def CaretsMemoryCardSaid : Prop := Claim7.holds Tryd.pinned (.plain (OpenSpec.ofChange caretsMemorySpec)) caretsMemoryCard

/-- THE TIED CARD OF 'galleylaw33.CaretsType'. -/
def caretsTypeCard : Claim7 := { stood := { row := caretsTypeRow, standIns := [], harness := (true, "1e74bd8054560bd914c4cf3625d13abf11471a7c1fccd5537e4c61c333a68317"), looks := false }, kinds := [], alts := [], laidByText := true, laidKinds := [.data], laidTests := true, laidLooks := .later }
def CaretsTypeCardSaid : Prop := Claim7.holds Tryd.pinned (.plain (OpenSpec.ofChange caretsTypeSpec)) caretsTypeCard

/-- THE TIED CARD OF 'galleylaw33.CaretsRub'. -/
def caretsRubCard : Claim7 := { stood := { row := caretsRubRow, standIns := [], harness := (true, "1e74bd8054560bd914c4cf3625d13abf11471a7c1fccd5537e4c61c333a68317"), looks := false }, kinds := [], alts := [], laidByText := true, laidKinds := [.data], laidTests := true, laidLooks := .later }
def CaretsRubCardSaid : Prop := Claim7.holds Tryd.pinned (.plain (OpenSpec.ofChange caretsRubSpec)) caretsRubCard

/-- THE SECOND FORM's CARD OF 'galleylaw33.CaretsSettle'. -/
def caretsSettleUptoCard : Claim7 := { stood := { row := caretsSettleUptoRow, standIns := [], harness := (true, "1e74bd8054560bd914c4cf3625d13abf11471a7c1fccd5537e4c61c333a68317"), looks := false }, kinds := [], alts := [], laidByText := true, laidKinds := [.data], laidTests := true, laidLooks := .later }
def CaretsSettleUptoCardSaid : Prop := Claim7.holds Tryd.pinned (.plain (OpenSpec.upto caretsSettleSpec)) caretsSettleUptoCard

/-- THE SECOND FORM's CARD OF 'galleylaw33.CaretsMove'. -/
def caretsMoveUptoCard : Claim7 := { stood := { row := caretsMoveUptoRow, standIns := [], harness := (true, "1e74bd8054560bd914c4cf3625d13abf11471a7c1fccd5537e4c61c333a68317"), looks := false }, kinds := [], alts := [], laidByText := true, laidKinds := [.data], laidTests := true, laidLooks := .later }
def CaretsMoveUptoCardSaid : Prop := Claim7.holds Tryd.pinned (.plain (OpenSpec.upto caretsMoveSpec)) caretsMoveUptoCard

/-- THE SECOND FORM's CARD OF 'galleylaw22.WordsRuns'. -/
def wordsRunsUptoCard : Claim7 := { stood := { row := wordsRunsUptoRow, standIns := [], harness := (true, "1e74bd8054560bd914c4cf3625d13abf11471a7c1fccd5537e4c61c333a68317"), looks := false }, kinds := [], alts := [], laidByText := true, laidKinds := [.data], laidTests := true, laidLooks := .later }
def WordsRunsUptoCardSaid : Prop := Claim7.holds Tryd.pinned (.plain (OpenSpec.upto wordsRunsSpec)) wordsRunsUptoCard

/-- THE SECOND FORM's CARD OF 'galleylaw22.WordsTabs'. -/
def wordsTabsUptoCard : Claim7 := { stood := { row := wordsTabsUptoRow, standIns := [], harness := (true, "1e74bd8054560bd914c4cf3625d13abf11471a7c1fccd5537e4c61c333a68317"), looks := false }, kinds := [], alts := [], laidByText := true, laidKinds := [.data], laidTests := true, laidLooks := .later }
def WordsTabsUptoCardSaid : Prop := Claim7.holds Tryd.pinned (.plain (OpenSpec.upto wordsTabsSpec)) wordsTabsUptoCard

/-- THE SECOND FORM's CARD OF 'galleylaw33.CaretsNames'. -/
def caretsNamesUptoCard : Claim7 := { stood := { row := caretsNamesUptoRow, standIns := [], harness := (true, "1e74bd8054560bd914c4cf3625d13abf11471a7c1fccd5537e4c61c333a68317"), looks := false }, kinds := [], alts := [], laidByText := true, laidKinds := [.data], laidTests := true, laidLooks := .later }
def CaretsNamesUptoCardSaid : Prop := Claim7.holds Tryd.pinned (.plain (OpenSpec.upto caretsNamesSpec)) caretsNamesUptoCard

/-- THE SECOND FORM's CARD OF 'galleylaw33.CaretsMemory'. -/
def caretsMemoryUptoCard : Claim7 := { stood := { row := caretsMemoryUptoRow, standIns := [], harness := (true, "1e74bd8054560bd914c4cf3625d13abf11471a7c1fccd5537e4c61c333a68317"), looks := false }, kinds := [], alts := [], laidByText := true, laidKinds := [.data], laidTests := true, laidLooks := .later }
def CaretsMemoryUptoCardSaid : Prop := Claim7.holds Tryd.pinned (.plain (OpenSpec.upto caretsMemorySpec)) caretsMemoryUptoCard

/-- THE SECOND FORM's CARD OF 'galleylaw33.CaretsType'. -/
def caretsTypeUptoCard : Claim7 := { stood := { row := caretsTypeUptoRow, standIns := [], harness := (true, "1e74bd8054560bd914c4cf3625d13abf11471a7c1fccd5537e4c61c333a68317"), looks := false }, kinds := [], alts := [], laidByText := true, laidKinds := [.data], laidTests := true, laidLooks := .later }
def CaretsTypeUptoCardSaid : Prop := Claim7.holds Tryd.pinned (.plain (OpenSpec.upto caretsTypeSpec)) caretsTypeUptoCard

/-- THE SECOND FORM's CARD OF 'galleylaw33.CaretsRub'. -/
def caretsRubUptoCard : Claim7 := { stood := { row := caretsRubUptoRow, standIns := [], harness := (true, "1e74bd8054560bd914c4cf3625d13abf11471a7c1fccd5537e4c61c333a68317"), looks := false }, kinds := [], alts := [], laidByText := true, laidKinds := [.data], laidTests := true, laidLooks := .later }
def CaretsRubUptoCardSaid : Prop := Claim7.holds Tryd.pinned (.plain (OpenSpec.upto caretsRubSpec)) caretsRubUptoCard
end Rows
end Go.Proofs.YtijbkiajhicooabDoor
